/- The contract of the law package's awake: it answers true. -/
import Derived.Test.YtbekiknbjpdchaaD
namespace Go.Proofs.Ytbekiknbjpdchaa
open Go.ChangeShapes Go.WideShapes Go.ChangeAt Go.RowKit
set_option linter.unusedVariables false
theorem decode_int (op : Int) (i : Nat) (h0 : op = i) (h1 : i < 256) (N M L R : ByteArray) (hN : tableAt Try.f8 0 = N) (hM : tableAt Try.f8 1 = M) (hL : tableAt Try.f8 2 = L) (hR : tableAt Try.f8 3 = R) (k : Int) (w : World) (hm : w.cell? ⟨0, 0, none⟩ = some (.int .i64 k)) :
    Calls Try.prog 8 #[.int .u8 op] w fun e w' => e = .returned (.agg #[.string (oS N i), .int .i64 (oM M L i), .int .i64 (oU N M L i), .int .i64 (oC N M L i), .bool (oX N M L i), .bool (oG N R i)]) ∧ Below w.heap.size w w' := by
  subst h0
  exact decode_any i h1 N M L R hN hM hL hR k w hm
theorem v1 : oS (tableAt Try.f8 0) 169 = ⟨#[76, 68, 65]⟩ := by kernel_rfl
theorem v2 : oM (tableAt Try.f8 1) (tableAt Try.f8 2) 169 = 2 := by kernel_rfl
theorem v3 : oU (tableAt Try.f8 0) (tableAt Try.f8 1) (tableAt Try.f8 2) 169 = 1 := by kernel_rfl
theorem v4 : oC (tableAt Try.f8 0) (tableAt Try.f8 1) (tableAt Try.f8 2) 169 = 2 := by kernel_rfl
theorem v5 : oX (tableAt Try.f8 0) (tableAt Try.f8 1) (tableAt Try.f8 2) 169 = false := by kernel_rfl
theorem v6 : oG (tableAt Try.f8 0) (tableAt Try.f8 3) 169 = true := by kernel_rfl
theorem v7 : oC (tableAt Try.f8 0) (tableAt Try.f8 1) (tableAt Try.f8 2) 30 = 7 := by kernel_rfl
theorem v8 : oC (tableAt Try.f8 0) (tableAt Try.f8 1) (tableAt Try.f8 2) 145 = 6 := by kernel_rfl
theorem v9 : oX (tableAt Try.f8 0) (tableAt Try.f8 1) (tableAt Try.f8 2) 145 = false := by kernel_rfl
set_option maxHeartbeats 2000000 in
theorem awake_any (N M L R : ByteArray) (hN : tableAt Try.f8 0 = N) (hM : tableAt Try.f8 1 = M) (hL : tableAt Try.f8 2 = L) (hR : tableAt Try.f8 3 = R) (k : Int) (w : World) (hm : w.cell? ⟨0, 0, none⟩ = some (.int .i64 k)) :
    Calls Try.prog 9 #[] w fun e w' => e = .returned (.bool true) ∧ Below w.heap.size w w' := by
  have a1 := v1
  have a2 := v2
  have a3 := v3
  have a4 := v4
  have a5 := v5
  have a6 := v6
  have a7 := v7
  have a8 := v8
  have a9 := v9
  rw [hN] at a1
  rw [hM, hL] at a2
  rw [hN, hM, hL] at a3 a4 a5 a7 a8 a9
  rw [hN, hR] at a6
  have hz := cell_lt hm
  have q1 := fun W h => decode_int 169 169 rfl (by omega) N M L R hN hM hL hR k W h
  have q2 := fun W h => decode_int 30 30 rfl (by omega) N M L R hN hM hL hR k W h
  have q3 := fun W h => decode_int 145 145 rfl (by omega) N M L R hN hM hL hR k W h
  rw [a1, a2, a3, a4, a5, a6] at q1
  rw [a7] at q2
  rw [a8, a9] at q3
  have Q1 := Lib.hid q1
  have Q2 := Lib.hid q2
  have Q3 := Lib.hid q3
  have Hm := Lib.hid hm
  clear a1 a2 a3 a4 a5 a6 a7 a8 a9 q1 q2 q3 hN hM hL hR hm
  go_enter Try.func9, Try.ntmps9
  go_wp2_with fail
  refine (Q1.out _ Hm.out).mono ?_
  rintro e w1 ⟨rfl, z1⟩
  have G1 := Lib.hid z1
  clear z1
  go_wp2_with fail
  refine (Q2.out _ (hm_below Hm.out hz G1.out)).mono ?_
  rintro e w2 ⟨rfl, z2⟩
  have G2 := Lib.hid (below_call G1.out z2)
  clear z2
  go_wp2_with fail
  refine (Q3.out _ (hm_below Hm.out hz G2.out)).mono ?_
  rintro e w3 ⟨rfl, z3⟩
  have G3 := Lib.hid (below_call G2.out z3)
  clear z3
  generalize oS N 30 = s2
  generalize oS N 145 = s3
  go_wp2
  go_ret
  exact ⟨rfl, ((G3.out.alloc G3.out.size _).alloc (by rw [World.size_alloc]; exact Nat.le_succ_of_le G3.out.size) _).alloc (by rw [World.size_alloc, World.size_alloc]; exact Nat.le_succ_of_le (Nat.le_succ_of_le G3.out.size)) _⟩
end Go.Proofs.Ytbekiknbjpdchaa
