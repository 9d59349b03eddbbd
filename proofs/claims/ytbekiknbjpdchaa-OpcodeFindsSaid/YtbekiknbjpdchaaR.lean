/- The document's Decode by an opcode's number: the same six things as the program's. -/
import Derived.Test.YtbekiknbjpdchaaJ
namespace Go.Proofs.Ytbekiknbjpdchaa
open Go.ChangeShapes Go.WideShapes Go.ChangeAt Go.RowKit
set_option linter.unusedVariables false
theorem beq_dec (l k : List UInt8) : (l == k) = decide (l = k) := by
  cases q : (l == k)
  · symm
    rw [decide_eq_false_iff_not]
    exact beq_eq_false_iff_ne.1 q
  · symm
    rw [decide_eq_true_eq]
    exact eq_of_beq q
theorem rdecode_int (op : Int) (n : Nat) (h0 : op = n) (h1 : n < 256) (N M L R : ByteArray) (hN : tableAt Try.f8 0 = N) (hM : tableAt Try.f8 1 = M) (hL : tableAt Try.f8 2 = L) (hR : tableAt Try.f8 3 = R) (w : World) :
    Calls Try.prog 10 #[.int .u8 op] w fun e w' => e = .returned (.agg #[.string (oS N n), .int .i64 (oM M L n), .int .i64 (oU N M L n), .int .i64 (oC N M L n), .bool (oX N M L n), .bool (oG N R n)]) ∧ Below w.heap.size w w' := by
  have a1 := of_decide_eq_true (List.all_eq_true.1 all_names n (List.mem_range.2 h1))
  have a2 := of_decide_eq_true (List.all_eq_true.1 all_modes n (List.mem_range.2 h1))
  have a3 := List.all_eq_true.1 all_uses n (List.mem_range.2 h1)
  have a4 := List.all_eq_true.1 all_rare n (List.mem_range.2 h1)
  have hg := good_at n h1
  rw [hN, hM, hL] at hg
  rw [hN] at a1 a3
  rw [hN, hM, hL] at a2
  rw [hN, hR] at a4
  rw [Bool.and_eq_true] at a3
  have a1' := Go.WideShapes.bytes_inj a1
  have s1 : (tableAt Try.f10 0).size = 4 * 20 := by kernel_rfl
  have hu : ur (oM M L n) (ones (tableAt Try.f22 0) (oS N n) 8) (ones (tableAt Try.f22 1) (oS N n) 12) = oU N M L n := by
    unfold ur oU us
    rw [eq_of_beq a3.1, eq_of_beq a3.2]
  obtain ⟨T, hT⟩ : ∃ T, tableAt Try.f10 0 = T := ⟨_, rfl⟩
  rw [hT] at s1 a4
  have j1 : ((oS N n).toList == [74, 65, 77]) = decide ((oS N n).data.toList = [74, 65, 77]) := by rw [ByteArray.toList_eq]; exact beq_dec _ _
  have j2 : ((oS N n).toList == [74, 77, 80]) = decide ((oS N n).data.toList = [74, 77, 80]) := by rw [ByteArray.toList_eq]; exact beq_dec _ _
  have ha : n / 32 < 8 := by omega
  have hb : n / 4 % 8 < 8 := by omega
  have hc : n % 4 < 4 := by omega
  have e1 : (n : Int) / 32 = (n / 32 : Nat) := by omega
  have e2 : (n : Int) / 4 % 8 = (n / 4 % 8 : Nat) := by omega
  have e3 : (n : Int) % 4 = (n % 4 : Nat) := by omega
  refine rdecode_core op n h0 h1 (oS N n) T (oM M L n) (oU N M L n) (oC N M L n) (oX N M L n) (oG N R n) (Lib.contains R.data.toList (oS N n).data.toList) hT ?_ ?_ ?_ ?_ ?_ rfl rfl w
  · intro x
    have q := name_core n (n / 32) (n / 4 % 8) (n % 4) h1 ha hb hc e1 e2 e3 x
    rw [a1'] at q
    exact q
  · intro x
    have q := mode_core n (n / 32) (n / 4 % 8) (n % 4) h1 ha hb hc e1 e2 e3 (oS N n) a1' _ _ _ j1 j2 rfl x
    rw [a2] at q
    exact q
  · intro x
    have q := ruse_any (oS N n) (oM M L n) x
    rw [hu] at q
    exact q
  · intro x
    have q := one_any T (oS N n) 20 (by decide) s1 x
    rw [eq_of_beq a4] at q
    exact q
  · intro x
    exact rcycles_any (oM M L n) (oU N M L n) x (fits _ _ hg.1.1 hg.1.2) hg.2.1
end Go.Proofs.Ytbekiknbjpdchaa
