/-
  OpcodeTable: at every input the law returns true and leaves its arguments as they were. No condition.
-/
import Derived.Test.YtbekiknbjpdchaaR
import Derived.OpenShut
import Derived.HandedShaped
import Derived.BigQuiet
import Derived.Deep.DeepCutAuto
namespace Go.Proofs.Ytbekiknbjpdchaa.opcodeTable
open Go.Proofs.Ytbekiknbjpdchaa
open Go.ChangeShapes Go.WideShapes Go.ChangeAt Go.RowKit
set_option linter.unusedVariables false
theorem own : ownKnob Try.prog.godebug = none := by kernel_rfl
theorem below_same {P : Program} {f : FuncId} {args : Array Value} {v : Value} {W x : World} (hx : Below W.heap.size W x) (h : Calls P f args x fun e y => e = .returned v ∧ y = x) :
    Calls P f args x fun e y => e = .returned v ∧ Below W.heap.size W y := h.mono fun _ _ h => ⟨h.1, h.2 ▸ hx⟩
set_option maxRecDepth 100000 in
set_option maxHeartbeats 8000000 in
theorem walk (op : Int) (w_op : (Lit.int .u8 op).wf = true) (k : Int) (w : World) (hm : w.cell? ⟨0, 0, none⟩ = some (.int .i64 k)) :
    Calls Try.prog 5 #[.int .u8 op] w fun r w' => r = .returned (.bool true) ∧ Below w.heap.size w w' := by
  obtain ⟨o0, o1⟩ := bounds_u8 w_op
  clear w_op
  obtain ⟨i, hi⟩ : ∃ i : Nat, op = i := ⟨op.toNat, by omega⟩
  have hi2 : i < 256 := by omega
  obtain ⟨N, hN⟩ : ∃ N, tableAt Try.f8 0 = N := ⟨_, rfl⟩
  obtain ⟨M, hM⟩ : ∃ M, tableAt Try.f8 1 = M := ⟨_, rfl⟩
  obtain ⟨L, hL⟩ : ∃ L, tableAt Try.f8 2 = L := ⟨_, rfl⟩
  obtain ⟨R, hR⟩ : ∃ R, tableAt Try.f8 3 = R := ⟨_, rfl⟩
  have Q1 := Lib.hid (fun W h => decode_int op i hi hi2 N M L R hN hM hL hR k W h)
  have Q2 := Lib.hid (fun W h => awake_any N M L R hN hM hL hR k W h)
  have Q3 := Lib.hid (fun W => rdecode_int op i hi hi2 N M L R hN hM hL hR W)
  have Hm := Lib.hid hm
  have hz := cell_lt hm
  clear hN hM hL hR hm hi o0 o1
  go_enter Try.func5, Try.ntmps5
  go_wp2_with fail
  refine (Q1.out _ Hm.out).mono ?_
  rintro e w1 ⟨rfl, z1⟩
  have G1 := Lib.hid z1
  clear z1 Q1
  generalize oX N M L i = x at Q3 ⊢
  generalize oM M L i = m at Q3 ⊢
  generalize oU N M L i = u at Q3 ⊢
  generalize oC N M L i = c at Q3 ⊢
  generalize oG N R i = gd at Q3 ⊢
  generalize oS N i = s at Q3 ⊢
  have G3 := Lib.hid (G1.out.alloc G1.out.size (.cells #[.string s, .int .i64 m, .int .i64 u, .int .i64 c, .bool x, .bool gd] 23 (0, 0)))
  clear G1
  go_wp2_with fail
  generalize hW : World.alloc _ _ = W
  rw [hW] at G3
  have HO := Lib.hid (show W.heap[w1.heap.size]? = some (.cells #[.string s, .int .i64 m, .int .i64 u, .int .i64 c, .bool x, .bool gd] 23 (0, 0)) from by rw [← hW]; exact heap_alloc_new _ _)
  clear hW
  have HL := Lib.hid (fun W => long_all s m u c x gd W)
  have HR := Lib.hid (fun W => rlong_any m W)
  have hzW : w.heap.size ≤ W.heap.size := G3.out.size
  have HA := Lib.hid (fun y (hy : Below W.heap.size W y) => Q2.out y (hm_below (hm_below Hm.out hz G3.out) (Nat.lt_of_lt_of_le hz hzW) hy))
  clear Q2 hzW
  generalize lg m = l at HL HR
  refine wp_region_below (by kernel_rfl) (by kernel_rfl) ?_
  refine quiet_yes ?_ ?_ (fun y hy => ?_) ?_
  rotate_left
  · rfl
  · have ko := cells_of (old_in HO.out hy)
    go_simp
    first | done | (with_reducible rfl) | rfl
  simp only [Act.put, List.setIfInBounds_toArray, List.set_cons_zero, List.set_cons_succ]
  refine quiet_yes ?_ ?_ (fun y hy => ?_) ?_
  rotate_left
  · rfl
  · have ko := cells_of (old_in HO.out hy)
    go_simp
    first | done | (with_reducible rfl) | rfl
  simp only [Act.put, List.setIfInBounds_toArray, List.set_cons_zero, List.set_cons_succ]
  refine quiet_yes ?_ ?_ (fun y hy => ?_) ?_
  rotate_left
  · rfl
  · have ko := cells_of (old_in HO.out hy)
    go_simp
    (have q := below_in hy (Q3.out y); exact q)
  simp only [Act.put, List.setIfInBounds_toArray, List.set_cons_zero, List.set_cons_succ]
  refine quiet_yes (.bool true) ?_ (fun y hy => ?_) ?_
  · rfl
  · have ko := cells_of (old_in HO.out hy)
    go_simp
    first | done | rfl
  simp only [Act.put, List.setIfInBounds_toArray, List.set_cons_zero, List.set_cons_succ]
  refine quiet_yes ?_ ?_ (fun y hy => ?_) ?_
  rotate_left
  · rfl
  · have ko := cells_of (old_in HO.out hy)
    go_simp
    first | done | (with_reducible rfl) | rfl
  simp only [Act.put, List.setIfInBounds_toArray, List.set_cons_zero, List.set_cons_succ]
  refine quiet_yes ?_ ?_ (fun y hy => ?_) ?_
  rotate_left
  · rfl
  · have ko := cells_of (old_in HO.out hy)
    go_simp
    first | done | (with_reducible rfl) | rfl
  simp only [Act.put, List.setIfInBounds_toArray, List.set_cons_zero, List.set_cons_succ]
  refine quiet_yes ?_ ?_ (fun y hy => ?_) ?_
  rotate_left
  · rfl
  · have ko := cells_of (old_in HO.out hy)
    go_simp
    (have q := below_in hy (HL.out y); exact q)
  simp only [Act.put, List.setIfInBounds_toArray, List.set_cons_zero, List.set_cons_succ]
  refine quiet_yes ?_ ?_ (fun y hy => ?_) ?_
  rotate_left
  · rfl
  · have ko := cells_of (old_in HO.out hy)
    go_simp
    first | done | (with_reducible rfl) | rfl
  simp only [Act.put, List.setIfInBounds_toArray, List.set_cons_zero, List.set_cons_succ]
  refine quiet_yes ?_ ?_ (fun y hy => ?_) ?_
  rotate_left
  · rfl
  · have ko := cells_of (old_in HO.out hy)
    go_simp
    first | done | (with_reducible rfl) | rfl
  simp only [Act.put, List.setIfInBounds_toArray, List.set_cons_zero, List.set_cons_succ]
  refine quiet_yes ?_ ?_ (fun y hy => ?_) ?_
  rotate_left
  · rfl
  · have ko := cells_of (old_in HO.out hy)
    go_simp
    (have q := below_same hy (HR.out y); exact q)
  simp only [Act.put, List.setIfInBounds_toArray, List.set_cons_zero, List.set_cons_succ]
  refine quiet_yes (.bool true) ?_ (fun y hy => ?_) ?_
  · rfl
  · have ko := cells_of (old_in HO.out hy)
    go_simp
    first | done | rfl
  simp only [Act.put, List.setIfInBounds_toArray, List.set_cons_zero, List.set_cons_succ]
  refine quiet_yes ?_ ?_ (fun y hy => ?_) ?_
  rotate_left
  · rfl
  · have ko := cells_of (old_in HO.out hy)
    go_simp
    first | done | (with_reducible rfl) | rfl
  simp only [Act.put, List.setIfInBounds_toArray, List.set_cons_zero, List.set_cons_succ]
  refine quiet_yes ?_ ?_ (fun y hy => ?_) ?_
  rotate_left
  · rfl
  · have ko := cells_of (old_in HO.out hy)
    go_simp
    first | done | (with_reducible rfl) | rfl
  simp only [Act.put, List.setIfInBounds_toArray, List.set_cons_zero, List.set_cons_succ]
  refine quiet_yes ?_ ?_ (fun y hy => ?_) ?_
  rotate_left
  · rfl
  · have ko := cells_of (old_in HO.out hy)
    go_simp
    (have q := below_in hy (HA.out y hy); exact q)
  simp only [Act.put, List.setIfInBounds_toArray, List.set_cons_zero, List.set_cons_succ]
  refine quiet_yes ?_ ?_ (fun y hy => ?_) ?_
  rotate_left
  · rfl
  · have ko := cells_of (old_in HO.out hy)
    go_simp
    first | done | (with_reducible rfl) | rfl
  simp only [Act.put, List.setIfInBounds_toArray, List.set_cons_zero, List.set_cons_succ]
  refine quiet_yes ?_ ?_ (fun y hy => ?_) ?_
  rotate_left
  · rfl
  · have ko := cells_of (old_in HO.out hy)
    go_simp
    first | done | (with_reducible rfl) | rfl
  simp only [Act.put, List.setIfInBounds_toArray, List.set_cons_zero, List.set_cons_succ]
  refine wpQuiet_nil ?_
  intro y hy
  replace G3 := Lib.hid (below_call G3.out hy)
  clear hy HL HR HA HO Q3
  go_wp2
  go_ret
  exact ⟨rfl, G3.out⟩

set_option maxRecDepth 100000 in
theorem lifted (os : Os) (started : os.Started) (H : Type) (enc : TypeId × Value → H) :
    ReturnsInHanded {} Try.checked os 5 .any (Rows.opcodeTableSpec.pre6 enc Try.prog Try.f5 Rows.opcodeTableRow.domain false) (Rows.opcodeTableSpec.post enc Try.prog Try.f5 false true false false) := by
  refine returnsInHanded_of_change_shaped (C := Try.checked) own started (by kernel_rfl) Try.func5
    (ChangeSpec.witness6 (enc := enc) (C := Try.checked) false ⟨#[], #[.int .u8 0], []⟩ 8 (by kernel_rfl) (by kernel_rfl) (by kernel_rfl) (by kernel_rfl)) ?_
  intro W base args ds gs before hval0 hW hcnd _ hsh _
  have hval : ∀ (j : Nat) t v, Try.f5.params[j]? = some t → args[j]? = some v → Value.okWide Try.prog W .any base t v := hval0
  have hW' := hW
  obtain ⟨p, q, hA0, hV, rfl, hfz, hnd⟩ := hW
  have hA : DataW.TrodAll enc Try.prog W 0 (fun _ => true) true Try.f5.params.toList args.toList ds p := hA0
  rw [Try.params5] at hA hval
  obtain ⟨v0, vs0, d0, ds0, p0, q0, hargs, rfl, rfl, h0, r0⟩ := trodAll_cons hA
  obtain ⟨rfl, rfl, rfl⟩ := trodAll_nil r0
  obtain rfl : args = #[v0] := by cases args; simp_all
  obtain ⟨rfl, rfl⟩ := trodVars_none hV
  obtain ⟨op, rfl, rfl, rfl, w_op⟩ := open_int Try.underlying5 (hval 0 5 v0 rfl rfl) h0
  clear hA0 hval0
  simp only [List.append_nil] at hW'
  obtain ⟨k, hk⟩ := Try.laysM219.s1_3 W hsh
  refine (walk op w_op k W hk).mono fun e W' ⟨he, hg⟩ => ?_
  subst he
  exact ⟨_, rfl, _, _, _, [], _, [], hW', trodAll_mk1 (shut_bool Try.underlying4 _), (trodAll_cons_mk (shut_int Try.underlying5 w_op) trodAll_mk0), rfl, hg.frame _, fun h => by cases h⟩

theorem over : Rows.opcodeTableRow.holds Try.pinned (OpenSpec.ofChange Rows.opcodeTableSpec) :=
  OpenClaim.holds_of_wide 5 Try.f5 rfl rfl rfl rfl rfl rfl rfl ⟨rfl, rfl, rfl, rfl, rfl⟩ rfl rfl rfl rfl rfl (by kernel_rfl) Try.func5 (by kernel_rfl)
    (of_decide_eq_true (by kernel_rfl)) (by unfold Func.isWrapper; first | (rw [if_pos (by decide +kernel)]; kernel_rfl) | (rw [if_neg (by decide +kernel)]; exact ⟨rfl, rfl⟩))
    (fun os started H enc _ => lifted os started H enc)

/-- THE STATEMENT -/
theorem proved : Rows.OpcodeTableSaid :=
  over
#print axioms proved
end Go.Proofs.Ytbekiknbjpdchaa.opcodeTable
