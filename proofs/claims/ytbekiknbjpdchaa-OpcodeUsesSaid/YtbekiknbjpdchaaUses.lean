/-
  OpcodeUses: at every input the law returns true and leaves its arguments as they were. No condition.
-/
import Derived.Test.YtbekiknbjpdchaaA
import Derived.OpenShut
import Derived.HandedShaped
import Derived.BigQuiet
import Derived.Deep.DeepCutAuto
namespace Go.Proofs.Ytbekiknbjpdchaa.opcodeUses
open Go.Proofs.Ytbekiknbjpdchaa
open Go.ChangeShapes Go.WideShapes Go.ChangeAt Go.RowKit
set_option linter.unusedVariables false
theorem own : ownKnob Try.prog.godebug = none := by kernel_rfl
set_option maxRecDepth 100000 in
set_option maxHeartbeats 8000000 in
theorem walk (op : Int) (w_op : (Lit.int .u8 op).wf = true) (k : Int) (w : World) (hm : w.cell? ⟨0, 0, none⟩ = some (.int .i64 k)) :
    Calls Try.prog 4 #[.int .u8 op] w fun r w' => r = .returned (.bool true) ∧ Below w.heap.size w w' := by
  obtain ⟨o0, o1⟩ := bounds_u8 w_op
  clear w_op
  obtain ⟨i, hi⟩ : ∃ i : Nat, op = i := ⟨op.toNat, by omega⟩
  have hi2 : i < 256 := by omega
  obtain ⟨N, hN⟩ : ∃ N, tableAt Try.f8 0 = N := ⟨_, rfl⟩
  obtain ⟨M, hM⟩ : ∃ M, tableAt Try.f8 1 = M := ⟨_, rfl⟩
  obtain ⟨L, hL⟩ : ∃ L, tableAt Try.f8 2 = L := ⟨_, rfl⟩
  obtain ⟨R, hR⟩ : ∃ R, tableAt Try.f8 3 = R := ⟨_, rfl⟩
  have hg := good_at i hi2
  rw [hN, hM, hL] at hg
  obtain ⟨⟨g0, g1⟩, g2, g3⟩ := hg
  have hf : Fits (oM M L i) (oU N M L i) := fits _ _ g0 g1
  have hx : oX N M L i = (decide (oM M L i = 11) || (crs (oM M L i) && decide (oU N M L i = 1))) := rfl
  have Q1 := Lib.hid (fun W h => decode_int op i hi hi2 N M L R hN hM hL hR k W h)
  have Q2 := Lib.hid (fun W h => awake_any N M L R hN hM hL hR k W h)
  have Hm := Lib.hid hm
  have hz := cell_lt hm
  clear hN hM hL hR hm hi o0 o1 g0 g1
  go_enter Try.func4, Try.ntmps4
  go_wp2_with fail
  refine (Q1.out _ Hm.out).mono ?_
  rintro e w1 ⟨rfl, z1⟩
  have G1 := Lib.hid (z1.alloc z1.size (.cells #[.string (oS N i), .int .i64 (oM M L i), .int .i64 (oU N M L i), .int .i64 (oC N M L i), .bool (oX N M L i), .bool (oG N R i)] 23 (0, 0)))
  clear z1 Q1
  generalize oX N M L i = x at hx G1 ⊢
  generalize oM M L i = m at hf hx g2 G1 ⊢
  generalize oU N M L i = u at hf hx g2 G1 ⊢
  generalize oC N M L i = c at G1 ⊢
  generalize oG N R i = gd at G1 ⊢
  generalize oS N i = s at g3 G1 ⊢
  rcases hf with ⟨rfl, h⟩ | ⟨hu, h⟩
  · rcases h with rfl | rfl | rfl | rfl | rfl | rfl | rfl | rfl | rfl | rfl | rfl | rfl
    all_goals
      simp [crs] at hx
      subst hx
      clear g2
      go_wp2_with fail
      refine (Q2.out _ (hm_below Hm.out hz G1.out)).mono ?_
      rintro e w2 ⟨rfl, z2⟩
      go_wp2
      go_ret
      exact ⟨rfl, below_call G1.out z2⟩
  · rcases h with rfl | rfl | rfl | rfl | rfl | rfl | rfl | rfl | rfl
    · obtain rfl : u = 1 := g2 rfl
      simp [crs] at hx
      subst hx
      clear g2
      go_wp2_with fail
      refine (Q2.out _ (hm_below Hm.out hz G1.out)).mono ?_
      rintro e w2 ⟨rfl, z2⟩
      go_wp2
      go_ret
      exact ⟨rfl, below_call G1.out z2⟩
    all_goals
      rcases hu with rfl | rfl | rfl
      all_goals
        simp [crs] at hx
        subst hx
        clear g2
        go_wp2_with fail
        refine (Q2.out _ (hm_below Hm.out hz G1.out)).mono ?_
        rintro e w2 ⟨rfl, z2⟩
        go_wp2
        go_ret
        exact ⟨rfl, below_call G1.out z2⟩

set_option maxRecDepth 100000 in
theorem lifted (os : Os) (started : os.Started) (H : Type) (enc : TypeId × Value → H) :
    ReturnsInHanded {} Try.checked os 4 .any (Rows.opcodeUsesSpec.pre6 enc Try.prog Try.f4 Rows.opcodeUsesRow.domain false) (Rows.opcodeUsesSpec.post enc Try.prog Try.f4 false true false false) := by
  refine returnsInHanded_of_change_shaped (C := Try.checked) own started (by kernel_rfl) Try.func4
    (ChangeSpec.witness6 (enc := enc) (C := Try.checked) false ⟨#[], #[.int .u8 0], []⟩ 8 (by kernel_rfl) (by kernel_rfl) (by kernel_rfl) (by kernel_rfl)) ?_
  intro W base args ds gs before hval0 hW hcnd _ hsh _
  have hval : ∀ (j : Nat) t v, Try.f4.params[j]? = some t → args[j]? = some v → Value.okWide Try.prog W .any base t v := hval0
  have hW' := hW
  obtain ⟨p, q, hA0, hV, rfl, hfz, hnd⟩ := hW
  have hA : DataW.TrodAll enc Try.prog W 0 (fun _ => true) true Try.f4.params.toList args.toList ds p := hA0
  rw [Try.params4] at hA hval
  obtain ⟨v0, vs0, d0, ds0, p0, q0, hargs, rfl, rfl, h0, r0⟩ := trodAll_cons hA
  obtain ⟨rfl, rfl, rfl⟩ := trodAll_nil r0
  obtain rfl : args = #[v0] := by cases args; simp_all
  obtain ⟨rfl, rfl⟩ := trodVars_none hV
  obtain ⟨op, rfl, rfl, rfl, w_op⟩ := open_int Try.underlying5 (hval 0 5 v0 rfl rfl) h0
  clear hA0 hval0
  simp only [List.append_nil] at hW'
  obtain ⟨k, hk⟩ := Try.laysM219.s1_3 W hsh
  refine (walk op w_op k W hk).mono fun e W' ⟨he, hg⟩ => ?_
  subst he
  exact ⟨_, rfl, _, _, _, [], _, [], hW', trodAll_mk1 (shut_bool Try.underlying4 _), (trodAll_cons_mk (shut_int Try.underlying5 w_op) trodAll_mk0), rfl, hg.frame _, fun h => by cases h⟩

theorem over : Rows.opcodeUsesRow.holds Try.pinned (OpenSpec.ofChange Rows.opcodeUsesSpec) :=
  OpenClaim.holds_of_wide 4 Try.f4 rfl rfl rfl rfl rfl rfl rfl ⟨rfl, rfl, rfl, rfl, rfl⟩ rfl rfl rfl rfl rfl (by kernel_rfl) Try.func4 (by kernel_rfl)
    (of_decide_eq_true (by kernel_rfl)) (by unfold Func.isWrapper; first | (rw [if_pos (by decide +kernel)]; kernel_rfl) | (rw [if_neg (by decide +kernel)]; exact ⟨rfl, rfl⟩))
    (fun os started H enc _ => lifted os started H enc)

/-- THE STATEMENT -/
theorem proved : Rows.OpcodeUsesSaid :=
  over
#print axioms proved
end Go.Proofs.Ytbekiknbjpdchaa.opcodeUses
