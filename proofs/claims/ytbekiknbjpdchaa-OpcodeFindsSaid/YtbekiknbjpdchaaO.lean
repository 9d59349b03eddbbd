/- The contract of package opcode's All: the opcodes of a name, in memory of its own. -/
import Derived.Test.YtbekiknbjpdchaaR
import Derived.WalkKit
import Derived.OwnWalk
namespace Go.Proofs.Ytbekiknbjpdchaa
open Go.ChangeShapes Go.WideShapes Go.ChangeAt Go.RowKit
set_option linter.unusedVariables false
/-- of the first n opcodes those of a name -/
def sel (N s : ByteArray) (n : Nat) : List Nat := (List.range n).filter (fun i => decide (oS N i = s))
theorem sel_hit {N s : ByteArray} {n : Nat} (h : oS N n = s) : sel N s (n + 1) = sel N s n ++ [n] := by
  unfold sel
  rw [List.range_succ, List.filter_append]
  simp [h]
theorem sel_miss {N s : ByteArray} {n : Nat} (h : ¬ oS N n = s) : sel N s (n + 1) = sel N s n := by
  unfold sel
  rw [List.range_succ, List.filter_append]
  simp [h]
theorem sel_le (N s : ByteArray) (n : Nat) : (sel N s n).length ≤ n := Nat.le_trans (List.length_filter_le _ _) (by simp)
theorem sel_lt {N s : ByteArray} {n i : Nat} (h : i ∈ sel N s n) : i < n := List.mem_range.1 (List.mem_filter.1 h).1
/-- an opcode's number as a value -/
def val (i : Nat) : Value := .int .u8 i
theorem info5 : (Try.prog.info? 5).map (fun i => (i.zero, i.size, i.bytes)) = some (some (.int .u8 0), 1, 1) := by kernel_rfl
theorem below_grown {w w' : World} (h : Below w.heap.size w w') (row : Option Nat) : w.grownBy w' row := ⟨h.os, h.tape, h.output, h.size, fun k hk _ => h.block k hk⟩
theorem owns_below {w w' : World} {base : Nat} {e : TypeId} {size n : Nat} {v : Value} {xs : List Value} (h : w.ownsRow base e size v n xs) (hb : Below w.heap.size w w') : w'.ownsRow base e size v n xs :=
  h.kept (below_grown hb none) (by cases v.ownBlock <;> simp)
theorem owns_add {base n : Nat} {N s : ByteArray} {v' : Value} {w1 : World} (h : oS N n = s) (h2 : w1.ownsRow base 5 1 v' ((sel N s n).length + 1) ((sel N s n).map val ++ [.int .u8 n])) :
    w1.ownsRow base 5 1 v' (sel N s (n + 1)).length ((sel N s (n + 1)).map val) := by
  rw [sel_hit h]
  simpa [val] using h2
theorem one_new (w1 : World) (n : Int) (e : TypeId) : ∀ j u, [Value.int .u8 n][j]? = some u → (w1.alloc (.cells #[.int .u8 n] e)).cell? ((⟨w1.heap.size, 0, none⟩ : Addr).add j) = some u := by
  intro j u hj
  match j, hj with
  | 0, hj => simp at hj; subst hj; simp [Addr.add]
theorem one_cells (n : Int) : ∀ u ∈ [Value.int .u8 n], u.oneCell' = true := by
  intro u hu
  simp at hu
  subst hu
  rfl
theorem size_past {a : Nat} {w1 : World} (h : a ≤ w1.heap.size) (o : Obj) : a ≤ (w1.alloc o).heap.size := by
  rw [World.size_alloc]
  exact Nat.le_succ_of_le h
theorem grown_past {w w1 w2 : World} {o : Obj} {v : Value} {n : Nat} {xs : List Value} {e : TypeId} {sz : Nat} (hb : Below w.heap.size w w1) (ho : w1.ownsRow w.heap.size e sz v n xs) (hg : (w1.alloc o).grownBy w2 v.ownBlock) : Below w.heap.size w w2 :=
  (hb.alloc hb.size o).grown hg (size_past hb.size o) (fun j hj => (ho.lt j hj).1)
theorem fld0 (s : ByteArray) (m u c : Int) (x g : Bool) (w : World) : (Instr.field 23 (.agg #[.string s, .int .i64 m, .int .i64 u, .int .i64 c, .bool x, .bool g]) 0).run Try.prog w = .ok (.string s) w := by kernel_rfl
theorem fld1 (s : ByteArray) (m u c : Int) (x g : Bool) (w : World) : (Instr.field 23 (.agg #[.string s, .int .i64 m, .int .i64 u, .int .i64 c, .bool x, .bool g]) 1).run Try.prog w = .ok (.int .i64 m) w := by kernel_rfl
theorem fld5 (s : ByteArray) (m u c : Int) (x g : Bool) (w : World) : (Instr.field 23 (.agg #[.string s, .int .i64 m, .int .i64 u, .int .i64 c, .bool x, .bool g]) 5).run Try.prog w = .ok (.bool g) w := by kernel_rfl
set_option maxHeartbeats 2000000 in
set_option maxRecDepth 100000 in
theorem all_any (N M L R : ByteArray) (hN : tableAt Try.f8 0 = N) (hM : tableAt Try.f8 1 = M) (hL : tableAt Try.f8 2 = L) (hR : tableAt Try.f8 3 = R) (k : Int) (s : ByteArray) (w : World) (hm : w.cell? ⟨0, 0, none⟩ = some (.int .i64 k)) :
    Calls Try.prog 13 #[.string s] w fun e w' => ∃ v, e = .returned v ∧ w'.ownsRow w.heap.size 5 1 v (sel N s 256).length ((sel N s 256).map val) ∧ Below w.heap.size w w' ∧ (sel N s 256 = [] → v = .slice none 0 0) := by
  obtain ⟨i0, hi, hz0, hz1, hz2⟩ := info_parts info5
  have Q1 := Lib.hid (fun n (h : n < 256) W hm => decode_any n h N M L R hN hM hL hR k W hm)
  have Hm := Lib.hid hm
  have hz := cell_lt hm
  clear hN hM hL hR hm
  go_enter Try.func13, Try.ntmps13
  go_wp2_with fail
  go_loopw [3, 5] (fun v i wr => ∃ n : Nat, n ≤ 256 ∧ i = .int .i64 n ∧ Hid (wr.ownsRow w.heap.size 5 1 v (sel N s n).length ((sel N s n).map val)) ∧ Hid (Below w.heap.size w wr) ∧ Hid (sel N s n = [] → v = .slice none 0 0)) (fun _ i _ => 256 - (intOf i).toNat)
  case atStart => exact ⟨0, by omega, rfl, World.ownsRow_nil _ _ _ _, Below.refl _ _, fun _ => rfl⟩
  case round =>
    obtain ⟨n, hn, rfl, ho, hb, hnil⟩ := hrel
    by_cases hlt : n < 256
    · have e0 : IntKind.u8.wrap (n : Int) = n := IntWalk.u8_in _ (by omega)
      go_wp2_with fail
      refine (Q1.out n hlt _ (hm_below Hm.out hz hb.out)).mono ?_
      rintro e w1 ⟨rfl, z⟩
      have hb1 := Lib.hid (below_call hb.out z)
      have ho1 := Lib.hid (owns_below ho.out z)
      clear z ho hb
      generalize oM M L n = m
      generalize oU N M L n = u
      generalize oC N M L n = c
      generalize oX N M L n = x
      generalize oG N R n = g
      have hfd := fld0 (oS N n) m u c x g
      by_cases hs : oS N n = s
      · have bs : ((oS N n).toList == s.toList) = true := by rw [hs]; exact beq_self_eq_true _
        have HS := Lib.hid hs
        clear hs
        have hl := sel_le N s n
        go_wp2_with (at_builtin; refine wpList_append_own _ rfl _ _ 30 rfl w.heap.size 5 i0 (.int .u8 0) 1 1 Try.underlying30 hi hz0 hz1 hz2 rfl (by decide) _ _ _ rfl (ho1.out.alloc _) ⟨w1.heap.size, 0, none⟩ 1 1 [.int .u8 n] rfl rfl (one_new _ _ _) (one_cells _) (by unfold maxLen; omega) (by omega) (size_past hb1.out.size _) ?_; intro v' w2 ho2 hg2 _; have hb2 := Lib.hid (grown_past hb1.out ho1.out hg2); have ho2 := Lib.hid (owns_add HS.out ho2); clear hg2)
        have hb3 : Hid (Below w.heap.size w w2) := by assumption
        have ho3 : Hid (w2.ownsRow w.heap.size 5 1 v' (sel N s (n + 1)).length ((sel N s (n + 1)).map val)) := by assumption
        go_roundw
        case rel => exact ⟨n + 1, by omega, by go_num, ho3, hb3, fun q => absurd q (by rw [sel_hit HS.out]; simp)⟩
        case measure => simp [intOf]; omega
      · have bs : ((oS N n).toList == s.toList) = false := by
          rw [beq_eq_false_iff_ne]
          exact fun q => hs (str_inj q)
        have ho2 := Lib.hid (show w1.ownsRow w.heap.size 5 1 u3 (sel N s (n + 1)).length ((sel N s (n + 1)).map val) from by rw [sel_miss hs]; exact ho1.out)
        have hnil2 := Lib.hid (show sel N s (n + 1) = [] → u3 = .slice none 0 0 from by rw [sel_miss hs]; exact hnil.out)
        clear hs hnil
        go_wp2_with fail
        go_roundw
        case rel => exact ⟨n + 1, by omega, by go_num, ho2, hb1, hnil2⟩
        case measure => simp [intOf]; omega
    · obtain rfl : n = 256 := by omega
      go_wp2_with fail
      go_ret
      exact ⟨_, rfl, ho.out, hb.out, hnil.out⟩
end Go.Proofs.Ytbekiknbjpdchaa
