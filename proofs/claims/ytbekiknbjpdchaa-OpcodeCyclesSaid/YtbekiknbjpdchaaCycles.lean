/-
  OpcodeCycles: at every input the law returns true and leaves its arguments as they were. No condition.
-/
import Derived.Test.YtbekiknbjpdchaaQ
import Derived.OpenShut
import Derived.HandedShaped
import Derived.BigQuiet
import Derived.Deep.DeepCutAuto
namespace Go.Proofs.Ytbekiknbjpdchaa.opcodeCycles
open Go.Proofs.Ytbekiknbjpdchaa
open Go.ChangeShapes Go.WideShapes Go.ChangeAt Go.RowKit
set_option linter.unusedVariables false
theorem own : ownKnob Try.prog.godebug = none := by kernel_rfl
theorem cy_facts (m u : Int) (h : Fits m u) : (m = 20 ∧ u = 0 ∧ cy m u = 0) ∨ (m ≠ 20 ∧ 2 ≤ cy m u ∧ cy m u ≤ 8 ∧ lg m ≤ cy m u) := by
  rcases h with ⟨rfl, h⟩ | ⟨hu, h⟩
  · rcases h with rfl | rfl | rfl | rfl | rfl | rfl | rfl | rfl | rfl | rfl | rfl | rfl <;> decide
  · rcases h with rfl | rfl | rfl | rfl | rfl | rfl | rfl | rfl | rfl <;> rcases hu with rfl | rfl | rfl <;> decide
theorem cy_more (m : Int) (h : Fits m 1) (h3 : Fits m 3) : cy m 3 = cy m 1 + (if (decide (m = 11) || (crs m && decide ((1 : Int) = 1))) = true then 3 else 2) ∨ m = 2 := by
  rcases h with ⟨h, _⟩ | ⟨_, h⟩
  · omega
  · rcases h with rfl | rfl | rfl | rfl | rfl | rfl | rfl | rfl | rfl <;> decide
theorem fits_mode (m u : Int) (h : Fits m u) : m = 0 ∨ m = 1 ∨ m = 2 ∨ m = 3 ∨ m = 4 ∨ m = 5 ∨ m = 6 ∨ m = 7 ∨ m = 8 ∨ m = 9 ∨ m = 10 ∨ m = 11 ∨ m = 12 ∨ m = 13 ∨ m = 14 ∨ m = 15 ∨ m = 16 ∨ m = 17 ∨ m = 18 ∨ m = 19 ∨ m = 20 := by
  unfold Fits at h
  omega
set_option maxRecDepth 100000 in
set_option maxHeartbeats 8000000 in
theorem walk (op : Int) (oq : Int) (w_op : (Lit.int .u8 op).wf = true) (w_oq : (Lit.int .u8 oq).wf = true) (k : Int) (w : World) (hm : w.cell? ⟨0, 0, none⟩ = some (.int .i64 k)) :
    Calls Try.prog 6 #[.int .u8 op, .int .u8 oq] w fun r w' => r = .returned (.bool true) ∧ Below w.heap.size w w' := by
  obtain ⟨o0, o1⟩ := bounds_u8 w_op
  obtain ⟨p0, p1⟩ := bounds_u8 w_oq
  clear w_op w_oq
  obtain ⟨i, hi⟩ : ∃ i : Nat, op = i := ⟨op.toNat, by omega⟩
  obtain ⟨j, hj⟩ : ∃ j : Nat, oq = j := ⟨oq.toNat, by omega⟩
  have hi2 : i < 256 := by omega
  have hj2 : j < 256 := by omega
  obtain ⟨N, hN⟩ : ∃ N, tableAt Try.f8 0 = N := ⟨_, rfl⟩
  obtain ⟨M, hM⟩ : ∃ M, tableAt Try.f8 1 = M := ⟨_, rfl⟩
  obtain ⟨L, hL⟩ : ∃ L, tableAt Try.f8 2 = L := ⟨_, rfl⟩
  obtain ⟨R, hR⟩ : ∃ R, tableAt Try.f8 3 = R := ⟨_, rfl⟩
  have hg := good_at i hi2
  have hg' := good_at j hj2
  rw [hN, hM, hL] at hg hg'
  obtain ⟨⟨g0, g1⟩, g2, _⟩ := hg
  obtain ⟨⟨g0', g1'⟩, g2', _⟩ := hg'
  have hf : Fits (oM M L i) (oU N M L i) := fits _ _ g0 g1
  have hf' : Fits (oM M L j) (oU N M L j) := fits _ _ g0' g1'
  have hx : oX N M L i = (decide (oM M L i = 11) || (crs (oM M L i) && decide (oU N M L i = 1))) := rfl
  have hx' : oX N M L j = (decide (oM M L j = 11) || (crs (oM M L j) && decide (oU N M L j = 1))) := rfl
  have hc : oC N M L i = cy (oM M L i) (oU N M L i) := rfl
  have hc' : oC N M L j = cy (oM M L j) (oU N M L j) := rfl
  have Q1 := Lib.hid (fun W h => decode_int op i hi hi2 N M L R hN hM hL hR k W h)
  have Q3 := Lib.hid (fun W h => decode_int oq j hj hj2 N M L R hN hM hL hR k W h)
  have Q2 := Lib.hid (fun W h => awake_any N M L R hN hM hL hR k W h)
  have Hm := Lib.hid hm
  have hz := cell_lt hm
  have Kx := Lib.hid hx
  have Kx' := Lib.hid hx'
  have Kc := Lib.hid hc
  have Kc' := Lib.hid hc'
  clear hN hM hL hR hm hi hj o0 o1 p0 p1 g0 g1 g0' g1' hx hx' hc hc'
  go_enter Try.func6, Try.ntmps6
  go_wp2_with fail
  refine (Q1.out _ Hm.out).mono ?_
  rintro e w1 ⟨rfl, z1⟩
  have G1 := Lib.hid z1
  clear z1
  go_wp2_with fail
  refine (Q3.out _ (hm_below Hm.out hz G1.out)).mono ?_
  rintro e w2 ⟨rfl, z2⟩
  have G2 := Lib.hid (below_call G1.out z2)
  clear z2 Q1 Q3 G1
  have hx := Kx.out
  have hx' := Kx'.out
  have hc := Kc.out
  have hc' := Kc'.out
  clear Kx Kx' Kc Kc'
  generalize oX N M L i = x at hx ⊢
  generalize oM M L i = m at hf hx hc g2 ⊢
  generalize oU N M L i = u at hf hx hc g2 ⊢
  generalize oC N M L i = c at hc ⊢
  generalize oG N R i = gd
  generalize oS N i = s
  generalize oX N M L j = x' at hx' ⊢
  generalize oM M L j = m' at hf' hx' hc' g2' ⊢
  generalize oU N M L j = u' at hf' hx' hc' g2' ⊢
  generalize oC N M L j = c' at hc' ⊢
  generalize oG N R j = gd'
  generalize oS N j = s'
  have G3 := Lib.hid ((G2.out.alloc G2.out.size (.cells #[.string s, .int .i64 m, .int .i64 u, .int .i64 c, .bool x, .bool gd] 23 (0, 0))).alloc (by rw [World.size_alloc]; exact Nat.le_succ_of_le G2.out.size) (.cells #[.string s', .int .i64 m', .int .i64 u', .int .i64 c', .bool x', .bool gd'] 23 (0, 0)))
  have hl := fits_mode m u hf
  have Hx := Lib.hid hx
  have Hx' := Lib.hid hx'
  have Hc' := Lib.hid hc'
  have Hf := Lib.hid hf
  have Hf' := Lib.hid hf'
  have Hg' := Lib.hid g2'
  clear hx hx' hc' hf' g2 g2'
  rcases cy_facts m u hf with ⟨rfl, rfl, h0⟩ | ⟨hn, h2, h8, hlg⟩
  · rw [h0] at hc
    subst hc
    clear hf hl h0
    go_wp2_with fail
    refine (Q2.out _ (hm_below Hm.out hz G3.out)).mono ?_
    rintro e w3 ⟨rfl, z3⟩
    go_wp2
    go_ret
    exact ⟨rfl, below_call G3.out z3⟩
  · rw [← hc] at h2 h8 hlg
    have Hc := Lib.hid hc
    clear hc hf
    have bn : (m == 20) = false := by simp [hn]
    have dd1 : decide (c < 2) = false := decide_eq_false (by omega)
    have dd2 : decide (8 < c) = false := decide_eq_false (by omega)
    have dd3 : decide (c < lg m) = false := decide_eq_false (by omega)
    go_wp2_with fail
    generalize hW : World.alloc _ _ = W
    rw [hW] at G3
    have HO := Lib.hid (show W.heap[w2.heap.size]? = some (.cells #[.string s, .int .i64 m, .int .i64 u, .int .i64 c, .bool x, .bool gd] 23 (0, 0)) from by rw [← hW]; exact heap_alloc2_old _ _ _)
    have HX := Lib.hid (show W.heap[w2.heap.size + 1]? = some (.cells #[.string s', .int .i64 m', .int .i64 u', .int .i64 c', .bool x', .bool gd'] 23 (0, 0)) from by rw [← hW]; exact new_last _ _ _)
    clear hW
    have Hhl := Lib.hid hl
    have HL := Lib.hid (fun W => long_any s m u c x gd W Hhl.out)
    clear hl Hhl
    refine wp_region_below (by kernel_rfl) (by kernel_rfl) ?_
    refine quiet_yes ?_ ?_ (fun y hy => ?_) ?_
    rotate_left
    · rfl
    · have ko := cells_of (old_in HO.out hy)
      go_simp
      first | done | (with_reducible rfl) | rfl
    simp only [Act.put, List.setIfInBounds_toArray, List.set_cons_zero, List.set_cons_succ]
    refine quiet_yes ?_ ?_ (fun y hy => ?_) ?_
    rotate_left
    · rfl
    · have ko := cells_of (old_in HO.out hy)
      go_simp
      first | done | (with_reducible rfl) | rfl
    simp only [Act.put, List.setIfInBounds_toArray, List.set_cons_zero, List.set_cons_succ]
    refine quiet_yes ?_ ?_ (fun y hy => ?_) ?_
    rotate_left
    · rfl
    · have ko := cells_of (old_in HO.out hy)
      go_simp
      first | done | (with_reducible rfl) | rfl
    simp only [Act.put, List.setIfInBounds_toArray, List.set_cons_zero, List.set_cons_succ]
    refine quiet_yes ?_ ?_ (fun y hy => ?_) ?_
    rotate_left
    · rfl
    · have ko := cells_of (old_in HO.out hy)
      go_simp
      first | done | (with_reducible rfl) | rfl
    simp only [Act.put, List.setIfInBounds_toArray, List.set_cons_zero, List.set_cons_succ]
    refine quiet_yes ?_ ?_ (fun y hy => ?_) ?_
    rotate_left
    · rfl
    · have ko := cells_of (old_in HO.out hy)
      go_simp
      first | done | (with_reducible rfl) | rfl
    simp only [Act.put, List.setIfInBounds_toArray, List.set_cons_zero, List.set_cons_succ]
    refine quiet_yes ?_ ?_ (fun y hy => ?_) ?_
    rotate_left
    · rfl
    · have ko := cells_of (old_in HO.out hy)
      go_simp
      first | done | (with_reducible rfl) | rfl
    simp only [Act.put, List.setIfInBounds_toArray, List.set_cons_zero, List.set_cons_succ]
    refine quiet_yes ?_ ?_ (fun y hy => ?_) ?_
    rotate_left
    · rfl
    · have ko := cells_of (old_in HO.out hy)
      go_simp
      first | done | (with_reducible rfl) | rfl
    simp only [Act.put, List.setIfInBounds_toArray, List.set_cons_zero, List.set_cons_succ]
    refine quiet_yes ?_ ?_ (fun y hy => ?_) ?_
    rotate_left
    · rfl
    · have ko := cells_of (old_in HO.out hy)
      go_simp
      first | done | (with_reducible rfl) | rfl
    simp only [Act.put, List.setIfInBounds_toArray, List.set_cons_zero, List.set_cons_succ]
    refine quiet_yes ?_ ?_ (fun y hy => ?_) ?_
    rotate_left
    · rfl
    · have ko := cells_of (old_in HO.out hy)
      go_simp
      first | done | (with_reducible rfl) | rfl
    simp only [Act.put, List.setIfInBounds_toArray, List.set_cons_zero, List.set_cons_succ]
    refine quiet_yes ?_ ?_ (fun y hy => ?_) ?_
    rotate_left
    · rfl
    · have ko := cells_of (old_in HO.out hy)
      go_simp
      first | done | (with_reducible rfl) | rfl
    simp only [Act.put, List.setIfInBounds_toArray, List.set_cons_zero, List.set_cons_succ]
    refine quiet_yes ?_ ?_ (fun y hy => ?_) ?_
    rotate_left
    · rfl
    · have ko := cells_of (old_in HO.out hy)
      go_simp
      first | done | (with_reducible rfl) | rfl
    simp only [Act.put, List.setIfInBounds_toArray, List.set_cons_zero, List.set_cons_succ]
    refine quiet_yes ?_ ?_ (fun y hy => ?_) ?_
    rotate_left
    · rfl
    · have ko := cells_of (old_in HO.out hy)
      go_simp
      first | done | (with_reducible rfl) | rfl
    simp only [Act.put, List.setIfInBounds_toArray, List.set_cons_zero, List.set_cons_succ]
    refine quiet_yes ?_ ?_ (fun y hy => ?_) ?_
    rotate_left
    · rfl
    · have ko := cells_of (old_in HO.out hy)
      go_simp
      (have q := below_in hy (HL.out y); exact q)
    simp only [Act.put, List.setIfInBounds_toArray, List.set_cons_zero, List.set_cons_succ]
    refine quiet_yes ?_ ?_ (fun y hy => ?_) ?_
    rotate_left
    · rfl
    · have ko := cells_of (old_in HO.out hy)
      go_simp
      first | done | (with_reducible rfl) | rfl
    simp only [Act.put, List.setIfInBounds_toArray, List.set_cons_zero, List.set_cons_succ]
    refine quiet_yes ?_ ?_ (fun y hy => ?_) ?_
    rotate_left
    · rfl
    · have ko := cells_of (old_in HO.out hy)
      go_simp
      first | done | (with_reducible rfl) | rfl
    simp only [Act.put, List.setIfInBounds_toArray, List.set_cons_zero, List.set_cons_succ]
    refine wpQuiet_nil ?_
    intro y hy
    replace HO := Lib.hid (old_in HO.out hy)
    replace HX := Lib.hid (old_in HX.out hy)
    replace G3 := Lib.hid (below_call G3.out hy)
    clear hy HL
    have kO := cells_of HO.out
    have kX := cells_of HX.out
    by_cases em : m = m'
    · by_cases eu : u = 1
      · by_cases ev : u' = 3
        · subst em eu ev
          have hm2 : m ≠ 2 := fun q => by have := Hg'.out q; omega
          have hmore := (cy_more m Hf.out Hf'.out).resolve_right hm2
          rw [← Hc.out, ← Hc'.out, ← Hx.out] at hmore
          have ex' : x' = false := by
            rw [Hx'.out]
            have q := Hf'.out
            unfold Fits at q
            have : m ≠ 11 := by omega
            simp [this]
          subst ex'
          cases x
          · rw [if_neg (by decide)] at hmore
            subst hmore
            go_wp2_with fail
            refine (Q2.out _ (hm_below Hm.out hz G3.out)).mono ?_
            rintro e w3 ⟨rfl, z3⟩
            go_wp2
            go_ret
            exact ⟨rfl, below_call G3.out z3⟩
          · rw [if_pos rfl] at hmore
            subst hmore
            go_wp2_with fail
            refine (Q2.out _ (hm_below Hm.out hz G3.out)).mono ?_
            rintro e w3 ⟨rfl, z3⟩
            go_wp2
            go_ret
            exact ⟨rfl, below_call G3.out z3⟩
        · have bv : (u' != 3) = true := by simp [ev]
          have bv2 : (u' == 3) = false := by simp [ev]
          go_wp2_with fail
          refine (Q2.out _ (hm_below Hm.out hz G3.out)).mono ?_
          rintro e w3 ⟨rfl, z3⟩
          go_wp2
          go_ret
          exact ⟨rfl, below_call G3.out z3⟩
      · have bu : (u != 1) = true := by simp [eu]
        have bu2 : (u == 1) = false := by simp [eu]
        go_wp2_with fail
        refine (Q2.out _ (hm_below Hm.out hz G3.out)).mono ?_
        rintro e w3 ⟨rfl, z3⟩
        go_wp2
        go_ret
        exact ⟨rfl, below_call G3.out z3⟩
    · have bm : (m != m') = true := by simp [em]
      have bm2 : (m == m') = false := by simp [em]
      go_wp2_with fail
      refine (Q2.out _ (hm_below Hm.out hz G3.out)).mono ?_
      rintro e w3 ⟨rfl, z3⟩
      go_wp2
      go_ret
      exact ⟨rfl, below_call G3.out z3⟩

set_option maxRecDepth 100000 in
theorem lifted (os : Os) (started : os.Started) (H : Type) (enc : TypeId × Value → H) :
    ReturnsInHanded {} Try.checked os 6 .any (Rows.opcodeCyclesSpec.pre6 enc Try.prog Try.f6 Rows.opcodeCyclesRow.domain false) (Rows.opcodeCyclesSpec.post enc Try.prog Try.f6 false true false false) := by
  refine returnsInHanded_of_change_shaped (C := Try.checked) own started (by kernel_rfl) Try.func6
    (ChangeSpec.witness6 (enc := enc) (C := Try.checked) false ⟨#[], #[.int .u8 0, .int .u8 0], []⟩ 8 (by kernel_rfl) (by kernel_rfl) (by kernel_rfl) (by kernel_rfl)) ?_
  intro W base args ds gs before hval0 hW hcnd _ hsh _
  have hval : ∀ (j : Nat) t v, Try.f6.params[j]? = some t → args[j]? = some v → Value.okWide Try.prog W .any base t v := hval0
  have hW' := hW
  obtain ⟨p, q, hA0, hV, rfl, hfz, hnd⟩ := hW
  have hA : DataW.TrodAll enc Try.prog W 0 (fun _ => true) true Try.f6.params.toList args.toList ds p := hA0
  rw [Try.params6] at hA hval
  obtain ⟨v0, vs0, d0, ds0, p0, q0, hargs, rfl, rfl, h0, r0⟩ := trodAll_cons hA
  obtain ⟨v1, vs1, d1, ds1, p1, q1, rfl, rfl, rfl, h1, r1⟩ := trodAll_cons r0
  obtain ⟨rfl, rfl, rfl⟩ := trodAll_nil r1
  obtain rfl : args = #[v0, v1] := by cases args; simp_all
  obtain ⟨rfl, rfl⟩ := trodVars_none hV
  obtain ⟨op, rfl, rfl, rfl, w_op⟩ := open_int Try.underlying5 (hval 0 5 v0 rfl rfl) h0
  obtain ⟨oq, rfl, rfl, rfl, w_oq⟩ := open_int Try.underlying5 (hval 1 5 v1 rfl rfl) h1
  clear hA0 hval0
  simp only [List.append_nil] at hW'
  obtain ⟨k, hk⟩ := Try.laysM219.s1_3 W hsh
  refine (walk op oq w_op w_oq k W hk).mono fun e W' ⟨he, hg⟩ => ?_
  subst he
  exact ⟨_, rfl, _, _, _, [], _, [], hW', trodAll_mk1 (shut_bool Try.underlying4 _), (trodAll_cons_mk (shut_int Try.underlying5 w_op) (trodAll_cons_mk (shut_int Try.underlying5 w_oq) trodAll_mk0)), rfl, hg.frame _, fun h => by cases h⟩

theorem over : Rows.opcodeCyclesRow.holds Try.pinned (OpenSpec.ofChange Rows.opcodeCyclesSpec) :=
  OpenClaim.holds_of_wide 6 Try.f6 rfl rfl rfl rfl rfl rfl rfl ⟨rfl, rfl, rfl, rfl, rfl⟩ rfl rfl rfl rfl rfl (by kernel_rfl) Try.func6 (by kernel_rfl)
    (of_decide_eq_true (by kernel_rfl)) (by unfold Func.isWrapper; first | (rw [if_pos (by decide +kernel)]; kernel_rfl) | (rw [if_neg (by decide +kernel)]; exact ⟨rfl, rfl⟩))
    (fun os started H enc _ => lifted os started H enc)

/-- THE STATEMENT -/
theorem proved : Rows.OpcodeCyclesSaid :=
  over
#print axioms proved
end Go.Proofs.Ytbekiknbjpdchaa.opcodeCycles
