/-
  VramAround: at every address and every octet the law returns true and leaves its arguments as they were. No condition.
  (The frame behind the walk was written by the kit's proof-skeleton.mjs.)
-/
import Derived.Test.YtbimklogfaihlaaA
import Derived.Test.YtbimklogfaihlaaPl2
import Derived.Test.YtbimklogfaihlaaRows
import Derived.WalkKit
import Derived.ProofKit
import Derived.OpenShut
namespace Go.Proofs.Ytbimklogfaihlaa.vramAround
open Go.ChangeShapes Go.WideShapes Go.ChangeAt Go.RowKit
set_option linter.unusedVariables false      -- a walk need not use every 'w<i>' (that an integer argument fits its kind)

theorem own : ownKnob Try.prog.godebug = none := by kernel_rfl

/-! ### STEP 1: THE WALK: the Go text returns true. 'Grown w w'': the world has at most new blocks (Derived/RowKit3.lean). Part the cases AHEAD of 'go_enter' where a test parts the walk; take each callee by a contract of your own. -/
set_option maxHeartbeats 1000000 in
theorem walk (a0 : Int) (a1 : Int) (w0 : (Lit.int .u16 a0).wf = true) (w1 : (Lit.int .u8 a1).wf = true) (w : World) :
    Calls Try.prog 6 #[.int .u16 a0, .int .u8 a1] w fun e w' => e = .returned (.bool true) ∧ Grown w w' := by
  obtain ⟨b0, b1⟩ := bounds_u16 w0
  obtain ⟨c0, c1⟩ := bounds_u8 w1
  have hl1 : 0 ≤ a1 % 5 := by omega
  have hl2 : a1 % 5 ≤ 4 := by omega
  obtain ⟨u, hu⟩ : ∃ u, bits .xor .u16 a0 16384 = u := ⟨_, rfl⟩
  have hx := xor16384 a0 b0 b1
  rw [hu] at hx
  have u0 : 0 ≤ u := by split at hx <;> omega
  have u1 : u ≤ 65535 := by split at hx <;> omega
  have um : u % 16384 = a0 % 16384 := by split at hx <;> omega
  have hs := sp_mod (a1 % 5) u a0 (by omega)
  have hpl := pl_mod u a0 (by omega)
  have hs2 := sp_mod (a1 % 5) (8192 + a0 % 3840 + 4096) (8192 + a0 % 3840) (by omega)
  have hpl2 := pl_mod (16128 + a0 % 256) (16128 + a0 % 32) (by omega)
  clear w0 w1 hx
  by_cases hp : a0 % 16384 < 8192
  · have up : u % 16384 < 8192 := by omega
    clear um
    go_enter Try.func6, Try.ntmps6
    go_wp2_with fail
    refine (screen_pat _ _ _ b0 b1 hp).mono ?_
    rintro e w1 ⟨rfl, g1⟩
    go_wp2_with fail
    refine (screen_pat _ _ _ u0 u1 up).mono ?_
    rintro e w2 ⟨rfl, g2⟩
    go_wp2_with fail
    refine (pal_pat _ _ b0 b1 hp).mono ?_
    rintro e w' ⟨rfl, rfl⟩
    go_wp2_with fail
    refine (pal_pat _ _ u0 u1 up).mono ?_
    rintro e w' ⟨rfl, rfl⟩
    go_wp2_with fail
    refine (kind_pat _ _ b0 b1 hp).mono ?_
    rintro e w' ⟨rfl, rfl⟩
    go_wp2_with fail
    refine (kind_pat _ _ u0 u1 up).mono ?_
    rintro e w' ⟨rfl, rfl⟩
    go_wp2_with fail
    refine (screen_ok (8192 + a0 % 3840) (a1 % 5) _ (by omega) (by omega) hl1 hl2 (by omega) (by omega)).mono ?_
    rintro e w3 ⟨rfl, g3⟩
    go_wp2_with fail
    refine (screen_ok (8192 + a0 % 3840 + 4096) (a1 % 5) _ (by omega) (by omega) hl1 hl2 (by omega) (by omega)).mono ?_
    rintro e w4 ⟨rfl, g4⟩
    go_wp2_with fail
    refine (pal_ok (16128 + a0 % 256) _ (by omega) (by omega) (by omega)).mono ?_
    rintro e w' ⟨rfl, rfl⟩
    go_wp2_with fail
    refine (pal_ok (16128 + a0 % 32) _ (by omega) (by omega) (by omega)).mono ?_
    rintro e w' ⟨rfl, rfl⟩
    go_wp2_with fail
    refine (awake_any _).mono ?_
    rintro e w5 ⟨rfl, g5⟩
    go_wp2
    go_ret
    exact ⟨rfl, gtrans (gtrans (gtrans (gtrans g1 g2) g3) g4) g5⟩
  · have hp1 : 8192 ≤ a0 % 16384 := by omega
    have up1 : 8192 ≤ u % 16384 := by omega
    clear hp
    by_cases hq : a0 % 16384 < 16128
    · have uq : u % 16384 < 16128 := by omega
      clear um
      go_enter Try.func6, Try.ntmps6
      go_wp2_with fail
      refine (screen_ok _ _ _ b0 b1 hl1 hl2 hp1 hq).mono ?_
      rintro e w1 ⟨rfl, g1⟩
      go_wp2_with fail
      refine (screen_ok _ _ _ u0 u1 hl1 hl2 up1 uq).mono ?_
      rintro e w2 ⟨rfl, g2⟩
      go_wp2_with fail
      refine (pal_scr _ _ b0 b1 hp1 hq).mono ?_
      rintro e w' ⟨rfl, rfl⟩
      go_wp2_with fail
      refine (pal_scr _ _ u0 u1 up1 uq).mono ?_
      rintro e w' ⟨rfl, rfl⟩
      go_wp2_with fail
      refine (kind_scr _ _ b0 b1 hp1 hq).mono ?_
      rintro e w' ⟨rfl, rfl⟩
      go_wp2_with fail
      refine (kind_scr _ _ u0 u1 up1 uq).mono ?_
      rintro e w' ⟨rfl, rfl⟩
      go_wp2_with fail
      refine (screen_ok (8192 + a0 % 3840) (a1 % 5) _ (by omega) (by omega) hl1 hl2 (by omega) (by omega)).mono ?_
      rintro e w3 ⟨rfl, g3⟩
      go_wp2_with fail
      refine (screen_ok (8192 + a0 % 3840 + 4096) (a1 % 5) _ (by omega) (by omega) hl1 hl2 (by omega) (by omega)).mono ?_
      rintro e w4 ⟨rfl, g4⟩
      go_wp2_with fail
      refine (pal_ok (16128 + a0 % 256) _ (by omega) (by omega) (by omega)).mono ?_
      rintro e w' ⟨rfl, rfl⟩
      go_wp2_with fail
      refine (pal_ok (16128 + a0 % 32) _ (by omega) (by omega) (by omega)).mono ?_
      rintro e w' ⟨rfl, rfl⟩
      go_wp2_with fail
      refine (awake_any _).mono ?_
      rintro e w5 ⟨rfl, g5⟩
      go_wp2
      go_ret
      exact ⟨rfl, gtrans (gtrans (gtrans (gtrans g1 g2) g3) g4) g5⟩
    · have hq1 : 16128 ≤ a0 % 16384 := by omega
      have uq1 : 16128 ≤ u % 16384 := by omega
      clear hq um
      go_enter Try.func6, Try.ntmps6
      go_wp2_with fail
      refine (screen_pal _ _ _ b0 b1 hq1).mono ?_
      rintro e w1 ⟨rfl, g1⟩
      go_wp2_with fail
      refine (screen_pal _ _ _ u0 u1 uq1).mono ?_
      rintro e w2 ⟨rfl, g2⟩
      go_wp2_with fail
      refine (pal_ok _ _ b0 b1 hq1).mono ?_
      rintro e w' ⟨rfl, rfl⟩
      go_wp2_with fail
      refine (pal_ok _ _ u0 u1 uq1).mono ?_
      rintro e w' ⟨rfl, rfl⟩
      go_wp2_with fail
      refine (kind_pal _ _ b0 b1 hq1).mono ?_
      rintro e w' ⟨rfl, rfl⟩
      go_wp2_with fail
      refine (kind_pal _ _ u0 u1 uq1).mono ?_
      rintro e w' ⟨rfl, rfl⟩
      go_wp2_with fail
      refine (screen_ok (8192 + a0 % 3840) (a1 % 5) _ (by omega) (by omega) hl1 hl2 (by omega) (by omega)).mono ?_
      rintro e w3 ⟨rfl, g3⟩
      go_wp2_with fail
      refine (screen_ok (8192 + a0 % 3840 + 4096) (a1 % 5) _ (by omega) (by omega) hl1 hl2 (by omega) (by omega)).mono ?_
      rintro e w4 ⟨rfl, g4⟩
      go_wp2_with fail
      refine (pal_ok (16128 + a0 % 256) _ (by omega) (by omega) (by omega)).mono ?_
      rintro e w' ⟨rfl, rfl⟩
      go_wp2_with fail
      refine (pal_ok (16128 + a0 % 32) _ (by omega) (by omega) (by omega)).mono ?_
      rintro e w' ⟨rfl, rfl⟩
      go_wp2_with fail
      refine (awake_any _).mono ?_
      rintro e w5 ⟨rfl, g5⟩
      go_wp2
      go_ret
      exact ⟨rfl, gtrans (gtrans (gtrans (gtrans g1 g2) g3) g4) g5⟩

/-! ### THE ROW's STEP: WRITTEN OUT: LEAVE IT -/
set_option maxRecDepth 100000 in
theorem lifted (os : Os) (started : os.Started) (H : Type) (enc : TypeId × Value → H) :
    ReturnsInHanded {} Try.checked os 6 .any (Rows.vramAroundSpec.pre6 enc Try.prog Try.f6 Rows.vramAroundRow.domain false) (Rows.vramAroundSpec.post enc Try.prog Try.f6 false true false false) := by
  refine returnsInHanded_of_change (C := Try.checked) own started (by kernel_rfl) Try.func6
    (ChangeSpec.witness6 (enc := enc) (C := Try.checked) false ⟨#[], #[.int .u16 0, .int .u8 0], []⟩ 8 (by kernel_rfl) (by kernel_rfl) (by kernel_rfl) (by kernel_rfl)) ?_
  intro W base args ds gs before hval0 hW hcnd _
  have hval : ∀ (j : Nat) t v, Try.f6.params[j]? = some t → args[j]? = some v → Value.okWide Try.prog W .any base t v := hval0
  have hW' := hW
  obtain ⟨p, q, hA0, hV, rfl, hfz, hnd⟩ := hW
  have hA : DataW.TrodAll enc Try.prog W 0 (fun _ => true) true Try.f6.params.toList args.toList ds p := hA0
  rw [Try.params6] at hA hval
  obtain ⟨v0, vs0, d0, ds0, p0, q0, hargs, rfl, rfl, h0, r0⟩ := trodAll_cons hA
  obtain ⟨v1, vs1, d1, ds1, p1, q1, rfl, rfl, rfl, h1, r1⟩ := trodAll_cons r0
  obtain ⟨rfl, rfl, rfl⟩ := trodAll_nil r1
  obtain rfl : args = #[v0, v1] := by cases args; simp_all
  obtain ⟨rfl, rfl⟩ := trodVars_none hV
  obtain ⟨a0, rfl, rfl, rfl, w0⟩ := open_int Try.underlying22 (hval 0 22 v0 rfl rfl) h0
  obtain ⟨a1, rfl, rfl, rfl, w1⟩ := open_int Try.underlying5 (hval 1 5 v1 rfl rfl) h1
  clear hA0 hval0
  simp only [List.append_nil] at hW'
  refine (walk a0 a1 w0 w1 W).mono fun e W' ⟨he, hg⟩ => ?_
  subst he
  exact ⟨_, rfl, post_of_same (pa := []) (pv := []) hW' (fun _ _ _ => (trodAll_cons_mk (shut_bool Try.underlying4 _) trodAll_mk0)) (fun sp _ => (trodAll_cons_mk (shut_int Try.underlying22 w0) (trodAll_cons_mk (shut_int Try.underlying5 w1) trodAll_mk0))) (fun _ _ => rfl) rfl
    (hg.frame _) hg.2.1 (ok_one (by kernel_rfl) rfl (okWide_bool_mk Try.underlying4 _))⟩

theorem over : Rows.vramAroundRow.holds Try.pinned (OpenSpec.ofChange Rows.vramAroundSpec) :=
  OpenClaim.holds_of_wide 6 Try.f6 rfl rfl rfl rfl rfl rfl rfl ⟨rfl, rfl, rfl, rfl, rfl⟩ rfl rfl rfl rfl rfl (by kernel_rfl) Try.func6 (by kernel_rfl)
    (of_decide_eq_true (by kernel_rfl)) (by unfold Func.isWrapper; first | (rw [if_pos (by decide +kernel)]; kernel_rfl) | (rw [if_neg (by decide +kernel)]; exact ⟨rfl, rfl⟩))
    (fun os started H enc _ => lifted os started H enc)

/-- THE STATEMENT -/
theorem proved : Rows.VramAroundSaid :=
  over
#print axioms proved
end Go.Proofs.Ytbimklogfaihlaa.vramAround
