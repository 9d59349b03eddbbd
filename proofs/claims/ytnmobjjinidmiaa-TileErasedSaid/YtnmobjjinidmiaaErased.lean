/-
  TileErased: at every input the law returns true and leaves its arguments as they were. No condition.
-/
import Derived.Test.YtnmobjjinidmiaaF
import Derived.Test.YtnmobjjinidmiaaA
import Derived.Test.YtnmobjjinidmiaaPl3
import Derived.Test.YtnmobjjinidmiaaQu
import Derived.OpenShut
import Derived.BigQuiet
namespace Go.Proofs.Ytnmobjjinidmiaa.tileErased
open Go.Proofs.Ytnmobjjinidmiaa
open Go.ChangeShapes Go.WideShapes Go.ChangeAt Go.RowKit
set_option linter.unusedVariables false

set_option maxRecDepth 100000 in
set_option maxHeartbeats 4000000 in
theorem walk (a : Int) (b : Int) (c : Int) (d : Int) (e : Int) (lv : Int) (ls : Bool) (hv : Int) (hs : Bool) (ti : Int) (s : Bool) (u : Int) (w_a : (Lit.int .u16 a).wf = true) (w_b : (Lit.int .u16 b).wf = true) (w_c : (Lit.int .u16 c).wf = true) (w_d : (Lit.int .u16 d).wf = true) (w_e : (Lit.int .u16 e).wf = true) (w_lv : (Lit.int .u8 lv).wf = true) (w_hv : (Lit.int .u8 hv).wf = true) (w_ti : (Lit.int .u8 ti).wf = true) (w_u : (Lit.int .u8 u).wf = true) (w : World) :
    Calls Try.prog 6 #[.agg #[.int .u16 a, .int .u16 b, .int .u16 c, .int .u16 d, .int .u16 e, .int .u8 lv, .bool ls, .int .u8 hv, .bool hs, .int .u8 ti, .bool s, .int .u8 u]] w fun r w' => r = .returned (.bool true) ∧ Below w.heap.size w w' := by
  obtain ⟨a0, a1⟩ := bounds_u16 w_a
  obtain ⟨b0, b1⟩ := bounds_u16 w_b
  obtain ⟨c0, c1⟩ := bounds_u16 w_c
  obtain ⟨d0, d1⟩ := bounds_u16 w_d
  obtain ⟨e0, e1⟩ := bounds_u16 w_e
  obtain ⟨l0, l1⟩ := bounds_u8 w_lv
  obtain ⟨h0, h1⟩ := bounds_u8 w_hv
  obtain ⟨t0, t1⟩ := bounds_u8 w_ti
  obtain ⟨u0, u1⟩ := bounds_u8 w_u
  clear w_a w_b w_c w_d w_e w_u w_lv w_hv w_ti
  have hE : ld 0 (spr false) = 0 := rfl
  have hs0 : sh 0 = 0 := rfl
  go_enter Try.func6, Try.ntmps6
  go_upto_region 1 with fail
  go_cut [3] (fun p x => ∃ T : Nat, p = .pointer (some ⟨T, 0, none⟩) ∧ Hid (Two w x T #[.int .u16 a, .int .u16 b, .int .u16 c, .int .u16 d, .int .u16 e, .int .u8 lv, .bool ls, .int .u8 hv, .bool hs, .int .u8 ti, .bool s, .int .u8 u] (ld a lv) (ld b hv) (ld c (spr (ti % 2 == 1))) (ld d (spr (ti / 2 % 2 == 1))) 0))
  case first =>
    generalize hW : World.alloc _ _ = W
    have hbox : W.heap[w.heap.size]? = some (.cells #[.int .u16 a, .int .u16 b, .int .u16 c, .int .u16 d, .int .u16 e, .int .u8 lv, .bool ls, .int .u8 hv, .bool hs, .int .u8 ti, .bool s, .int .u8 u] 28 (0, 0)) := by
      subst hW
      exact heap_alloc_new _ _
    have hWb : Below w.heap.size w W := by
      subst hW
      exact (Below.refl _ _).alloc (Nat.le_refl _) _
    have Hbox := Lib.hid hbox
    have HWb := Lib.hid hWb
    clear hbox hWb
    have hcell : ∀ x, Below W.heap.size W x → ∀ j, x.cell? ⟨w.heap.size, j, none⟩ = (#[.int .u16 a, .int .u16 b, .int .u16 c, .int .u16 d, .int .u16 e, .int .u8 lv, .bool ls, .int .u8 hv, .bool hs, .int .u8 ti, .bool s, .int .u8 u] : Array Value)[j]? := by
      intro x hx
      subst hW
      exact cells_in hx
    go_region_held3 (fun x => Below W.heap.size W x) (first | (with_reducible assumption) | (with_reducible exact (Below.refl _ _).drew) | (with_reducible exact ((Below.refl _ _).alloc (Nat.le_refl _) _).drew) | ((with_reducible refine Below.setCell (Below.setCell (Below.setCell (Below.setCell (Below.setCell ?_ ?_ _) ?_ _) ?_ _) ?_ _) ?_ _); (first | assumption | skip); all_goals (first | exact Nat.le_refl _ | exact drew_size z1)) | (with_reducible refine Below.alloc ?_ ?_ _; (first | assumption | exact (Below.refl _ _).drew | exact below_call (below_call (Below.refl _ _).drew z1) z2); (first | exact drew_le W | (apply Below.size; assumption) | exact Below.size (below_call (below_call (Below.refl _ _).drew z1) z2))) | exact below_call (by assumption) z2 | exact below_call (by assumption) z1) (first | (go_at_call 14; refine (erase_any _ _ _ _ _ _).mono ?_; rintro r w1 ⟨rfl, z1⟩; obtain ⟨kc1, kf1⟩ := bcell z1; first | have q1 := alloc_size z1 | have q1 := alloc_size' z1 | skip) | (go_at_call 10; refine (load_any _ _ _ _ _ _ _ _ _ _ _ _ a0 a1 b0 b1 c0 c1 d0 d1 (by omega) (by omega) l0 l1 h0 h1 t0 t1).mono ?_; rintro r w2 ⟨rfl, z2⟩; obtain ⟨kc2, kf2⟩ := bcell z2))
    · go_wp2_with fail
      go_meet
      case rel => exact ⟨_, rfl, way1 Hbox.out HWb.out z1 z2⟩
    · go_wp2_with fail
      go_meet
      case rel => exact ⟨_, rfl, way2 Hbox.out HWb.out z1 z2⟩
    · go_wp2_with fail
      go_meet
      case rel => exact ⟨_, rfl, way3 Hbox.out HWb.out z1 z2⟩
  case rest =>
    obtain ⟨T, rfl, hc⟩ := hcut
    have kb := cells_of hc.out.box
    go_wp2_with fail
    refine (load_any a b c d e lv hv ti s ls hs _ a0 a1 b0 b1 c0 c1 d0 d1 e0 e1 l0 l1 h0 h1 t0 t1).mono ?_
    rintro r w1 ⟨rfl, z1⟩
    go_wp2_with fail
    refine (erase_any _ _ _ _ _ _).mono ?_
    rintro r w2 ⟨rfl, z2⟩
    have hc2 := Lib.hid ((hc.out.call z1).call z2)
    clear z1 z2 kb hc
    obtain ⟨A0, A1⟩ := ld_bd a lv a0 a1 l0 l1
    obtain ⟨B0, B1⟩ := ld_bd b hv b0 b1 h0 h1
    obtain ⟨p0, p1⟩ := spr_bd (ti % 2 == 1)
    obtain ⟨q0, q1⟩ := spr_bd (ti / 2 % 2 == 1)
    obtain ⟨r0, r1⟩ := spr_bd (s || ls || hs)
    obtain ⟨C0, C1⟩ := ld_bd c _ c0 c1 p0 p1
    obtain ⟨D0, D1⟩ := ld_bd d _ d0 d1 q0 q1
    obtain ⟨E0, E1⟩ := ld_bd e _ e0 e1 r0 r1
    clear p0 p1 q0 q1 r0 r1
    have hA := Lib.hid ((Below.refl w2.heap.size w2).alloc (Nat.le_refl _) (.cells #[.int .u16 (ld a lv), .int .u16 (ld b hv), .int .u16 (ld c (spr (ti % 2 == 1))), .int .u16 (ld d (spr (ti / 2 % 2 == 1))), .int .u16 0] 24))
    have hc3 := Lib.hid (hc2.out.call hA.out)
    have hT3 := Lib.hid hc3.out.tile
    have kb3 := cells_of hc3.out.box
    clear hA
    go_wp2_with (refine wpList_load_row rfl 24 (.tmp 3) rfl T rfl 24 _ (0, 0) _ hT3.out Try.underlying24 rfl (by kernel_rfl) ?_)
    refine (dot_any _ _ _ _ _ u _ A0 A1 B0 B1 C0 C1 D0 D1 (by omega) (by omega) u0 u1).mono ?_
    rintro r w3 ⟨rfl, z3⟩
    have hc4 := hc3.out.call z3
    have HB := Lib.hid hc4.box
    have HT := Lib.hid hc4.tile
    have HY := Lib.hid (new_in z3)
    have HG := Lib.hid hc4.below
    have hds : ds 0 u = false := by
      unfold ds bt
      simp
    clear z3 hc4 hc3 hT3 kb3 hc2
    go_wp2_with fail
    refine wp_region_below (by kernel_rfl) (by kernel_rfl) ?_
    iterate 19
      refine quiet_yes ?_ ?_ (fun x hx => ?_) ?_
      rotate_left
      · rfl
      · have kb := cells_of (old_in HB.out hx)
        have kt := cells_of (old_in HT.out hx)
        have ky := cells_of (old_in HY.out hx)
        go_simp
        first | (go_at_call 10; have q := below_in hx (load_any a b c d e lv hv ti s ls hs x a0 a1 b0 b1 c0 c1 d0 d1 e0 e1 l0 l1 h0 h1 t0 t1); exact q) | (go_at_call 11; have q := below_in hx (dot_any _ _ _ _ _ u x A0 A1 B0 B1 C0 C1 D0 D1 E0 E1 u0 u1); exact q) | (go_at_call 12; have q := below_in hx (shift_any (ld a lv) (ld b hv) (ld c (spr (ti % 2 == 1))) (ld d (spr (ti / 2 % 2 == 1))) 0 x); exact q) | (go_at_call 14; have q := below_in hx (erase_any (sh (ld a lv)) (sh (ld b hv)) (sh (ld c (spr (ti % 2 == 1)))) (sh (ld d (spr (ti / 2 % 2 == 1)))) 0 x); exact q) | (go_at_call 13; have q := below_in hx (awake_any x); exact q) | (with_reducible rfl) | rfl
      simp only [Act.put, List.setIfInBounds_toArray, List.set_cons_zero, List.set_cons_succ]
    refine wpQuiet_nil ?_
    intro y hy
    replace HB := Lib.hid (old_in HB.out hy)
    replace HT := Lib.hid (old_in HT.out hy)
    replace HY := Lib.hid (old_in HY.out hy)
    replace HG := Lib.hid (below_call HG.out hy)
    clear hy
    go_wp2_with fail
    refine wp_region_below (by kernel_rfl) (by kernel_rfl) ?_
    iterate 24
      refine quiet_yes ?_ ?_ (fun x hx => ?_) ?_
      rotate_left
      · rfl
      · have kb := cells_of (old_in HB.out hx)
        have kt := cells_of (old_in HT.out hx)
        have ky := cells_of (old_in HY.out hx)
        go_simp
        first | (go_at_call 10; have q := below_in hx (load_any a b c d e lv hv ti s ls hs x a0 a1 b0 b1 c0 c1 d0 d1 e0 e1 l0 l1 h0 h1 t0 t1); exact q) | (go_at_call 11; have q := below_in hx (dot_any _ _ _ _ _ u x A0 A1 B0 B1 C0 C1 D0 D1 E0 E1 u0 u1); exact q) | (go_at_call 12; have q := below_in hx (shift_any (ld a lv) (ld b hv) (ld c (spr (ti % 2 == 1))) (ld d (spr (ti / 2 % 2 == 1))) 0 x); exact q) | (go_at_call 14; have q := below_in hx (erase_any (sh (ld a lv)) (sh (ld b hv)) (sh (ld c (spr (ti % 2 == 1)))) (sh (ld d (spr (ti / 2 % 2 == 1)))) 0 x); exact q) | (go_at_call 13; have q := below_in hx (awake_any x); exact q) | (with_reducible rfl) | rfl
      simp only [Act.put, List.setIfInBounds_toArray, List.set_cons_zero, List.set_cons_succ]
    refine wpQuiet_nil ?_
    intro y2 hy2
    replace HG := Lib.hid (below_call HG.out hy2)
    clear hy2
    go_wp2
    go_ret
    exact ⟨rfl, HG.out⟩

set_option maxRecDepth 100000 in
theorem lifted (os : Os) (started : os.Started) (H : Type) (enc : TypeId × Value → H) :
    ReturnsInHanded {} Try.checked os 6 .any (Rows.tileErasedSpec.pre6 enc Try.prog Try.f6 Rows.tileErasedRow.domain false) (Rows.tileErasedSpec.post enc Try.prog Try.f6 false true false false) := by
  refine returnsInHanded_of_change (C := Try.checked) own started (by kernel_rfl) Try.func6
    (ChangeSpec.witness6 (enc := enc) (C := Try.checked) false ⟨#[], #[.agg #[.int .u16 0, .int .u16 0, .int .u16 0, .int .u16 0, .int .u16 0, .int .u8 0, .bool false, .int .u8 0, .bool false, .int .u8 0, .bool false, .int .u8 0]], []⟩ 8 (by kernel_rfl) (by kernel_rfl) (by kernel_rfl) (by kernel_rfl)) ?_
  intro W base args ds gs before hval0 hW hcnd _
  have hval : ∀ (j : Nat) t v, Try.f6.params[j]? = some t → args[j]? = some v → Value.okWide Try.prog W .any base t v := hval0
  have hW' := hW
  obtain ⟨p, q, hA0, hV, rfl, hfz, hnd⟩ := hW
  have hA : DataW.TrodAll enc Try.prog W 0 (fun _ => true) true Try.f6.params.toList args.toList ds p := hA0
  rw [Try.params6] at hA hval
  obtain ⟨v0, vs0, d0, ds0, p0, q0, hargs, rfl, rfl, h0, r0⟩ := trodAll_cons hA
  obtain ⟨rfl, rfl, rfl⟩ := trodAll_nil r0
  obtain rfl : args = #[v0] := by cases args; simp_all
  obtain ⟨rfl, rfl⟩ := trodVars_none hV
  obtain ⟨a, b, c, d, e, lv, ls, hv, hs, ti, s, u, rfl, rfl, w_a, w_b, w_c, w_d, w_e, w_lv, w_hv, w_ti, w_u⟩ := open_ask (hval 0 28 v0 rfl rfl) h0
  clear hA0 hval0
  simp only [List.append_nil] at hW'
  refine (walk a b c d e lv ls hv hs ti s u w_a w_b w_c w_d w_e w_lv w_hv w_ti w_u W).mono fun e W' ⟨he, hg⟩ => ?_
  subst he
  exact ⟨_, rfl, _, _, _, [], _, [], hW', trodAll_mk1 (shut_bool Try.underlying4 _), (trodAll_cons_mk (stay28 h0) trodAll_mk0), rfl, hg.frame _, fun h => by cases h⟩

theorem over : Rows.tileErasedRow.holds Try.pinned (OpenSpec.ofChange Rows.tileErasedSpec) :=
  OpenClaim.holds_of_wide 6 Try.f6 rfl rfl rfl rfl rfl rfl rfl ⟨rfl, rfl, rfl, rfl, rfl⟩ rfl rfl rfl rfl rfl (by kernel_rfl) Try.func6 (by kernel_rfl)
    (of_decide_eq_true (by kernel_rfl)) (by unfold Func.isWrapper; first | (rw [if_pos (by decide +kernel)]; kernel_rfl) | (rw [if_neg (by decide +kernel)]; exact ⟨rfl, rfl⟩))
    (fun os started H enc _ => lifted os started H enc)

/-- THE STATEMENT -/
theorem proved : Rows.TileErasedSaid :=
  over
#print axioms proved
end Go.Proofs.Ytnmobjjinidmiaa.tileErased
