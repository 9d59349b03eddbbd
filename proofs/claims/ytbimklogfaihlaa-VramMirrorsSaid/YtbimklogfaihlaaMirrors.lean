/-
  VramMirrors: at every three octets the law returns true and leaves its arguments as they were. No condition.
  (The frame behind the walk was written by the kit's proof-skeleton.mjs.)
-/
import Derived.Test.YtbimklogfaihlaaA
import Derived.Test.YtbimklogfaihlaaPl2
import Derived.Test.YtbimklogfaihlaaRows
import Derived.WalkKit
import Derived.ProofKit
import Derived.OpenShut
namespace Go.Proofs.Ytbimklogfaihlaa.vramMirrors
open Go.ChangeShapes Go.WideShapes Go.ChangeAt Go.RowKit
set_option linter.unusedVariables false      -- a walk need not use every 'w<i>' (that an integer argument fits its kind)

theorem own : ownKnob Try.prog.godebug = none := by kernel_rfl

/-! ### STEP 1: THE WALK: the Go text returns true. 'Grown w w'': the world has at most new blocks (Derived/RowKit3.lean). Part the cases AHEAD of 'go_enter' where a test parts the walk; take each callee by a contract of your own. -/
set_option maxHeartbeats 4000000 in
theorem walk (a0 : Int) (a1 : Int) (a2 : Int) (w0 : (Lit.int .u8 a0).wf = true) (w1 : (Lit.int .u8 a1).wf = true) (w2 : (Lit.int .u8 a2).wf = true) (w : World) :
    Calls Try.prog 5 #[.int .u8 a0, .int .u8 a1, .int .u8 a2] w fun e w' => e = .returned (.bool true) ∧ Grown w w' := by
  obtain ⟨b0, b1⟩ := bounds_u8 w0
  obtain ⟨c0, c1⟩ := bounds_u8 w1
  obtain ⟨d0, d1⟩ := bounds_u8 w2
  clear w0 w1 w2
  have x0 : 0 ≤ a1 % 4 := by omega
  have x1 : a1 % 4 ≤ 3 := by omega
  have y0 : 0 ≤ a2 % 4 := by omega
  have y1 : a2 % 4 ≤ 3 := by omega
  have qx := quo2 (a1 % 4) x0 (by omega)
  have qy := quo2 (a2 % 4) y0 (by omega)
  go_enter Try.func5, Try.ntmps5
  go_wp2_with fail
  go_loopw [11] (fun i wr => ∃ k : Nat, k ≤ 5 ∧ i = .int .i64 k ∧ Hid (Grown w wr)) (fun i _ => 5 - (intOf i).toNat)
  case atStart => exact ⟨0, by omega, rfl, Grown.refl _⟩
  case round =>
    obtain ⟨k, hk, rfl, hg⟩ := hrel
    have hk' : k = 0 ∨ k = 1 ∨ k = 2 ∨ k = 3 ∨ k = 4 ∨ k = 5 := by omega
    rcases hk' with rfl | rfl | rfl | rfl | rfl | rfl
    · have ex := sp_at 0 (a1 % 4) a0 x0 x1 b0 b1
      have ey := sp_at 0 (a2 % 4) a0 y0 y1 b0 b1
      rw [tb_0] at ex ey
      have hn : (1024 * (a1 % 4 / 2) + a0 == 1024 * (a2 % 4 / 2) + a0) = (a1 % 4 / 2 == a2 % 4 / 2) := by
        rw [Bool.eq_iff_iff, beq_iff_eq, beq_iff_eq]
        omega
      rcases Bool.eq_false_or_eq_true (a1 % 4 / 2 == a2 % 4 / 2) with hs | hs
      all_goals
        go_wp2_with fail
        refine (screen_ok _ 0 _ (by omega) (by omega) (by omega) (by omega) (by omega) (by omega)).mono ?_
        rintro e w1 ⟨rfl, g1⟩
        go_wp2_with fail
        refine (screen_ok _ 0 _ (by omega) (by omega) (by omega) (by omega) (by omega) (by omega)).mono ?_
        rintro e w2 ⟨rfl, g2⟩
        go_wp2
        go_roundw
        case rel => exact ⟨1, by omega, rfl, gtrans (gtrans hg g1) g2⟩
        case measure => simp [intOf]
    · have ex := sp_at 1 (a1 % 4) a0 x0 x1 b0 b1
      have ey := sp_at 1 (a2 % 4) a0 y0 y1 b0 b1
      rw [tb_1] at ex ey
      have hn : (1024 * (a1 % 2) + a0 == 1024 * (a2 % 2) + a0) = (a1 % 2 == a2 % 2) := by
        rw [Bool.eq_iff_iff, beq_iff_eq, beq_iff_eq]
        omega
      rcases Bool.eq_false_or_eq_true (a1 % 2 == a2 % 2) with hs | hs
      all_goals
        go_wp2_with fail
        refine (screen_ok _ 1 _ (by omega) (by omega) (by omega) (by omega) (by omega) (by omega)).mono ?_
        rintro e w1 ⟨rfl, g1⟩
        go_wp2_with fail
        refine (screen_ok _ 1 _ (by omega) (by omega) (by omega) (by omega) (by omega) (by omega)).mono ?_
        rintro e w2 ⟨rfl, g2⟩
        go_wp2
        go_roundw
        case rel => exact ⟨2, by omega, rfl, gtrans (gtrans hg g1) g2⟩
        case measure => simp [intOf]
    · have ex := sp_at 2 (a1 % 4) a0 x0 x1 b0 b1
      have ey := sp_at 2 (a2 % 4) a0 y0 y1 b0 b1
      rw [tb_2] at ex ey
      all_goals
        go_wp2_with fail
        refine (screen_ok _ 2 _ (by omega) (by omega) (by omega) (by omega) (by omega) (by omega)).mono ?_
        rintro e w1 ⟨rfl, g1⟩
        go_wp2_with fail
        refine (screen_ok _ 2 _ (by omega) (by omega) (by omega) (by omega) (by omega) (by omega)).mono ?_
        rintro e w2 ⟨rfl, g2⟩
        go_wp2
        go_roundw
        case rel => exact ⟨3, by omega, rfl, gtrans (gtrans hg g1) g2⟩
        case measure => simp [intOf]
    · have ex := sp_at 3 (a1 % 4) a0 x0 x1 b0 b1
      have ey := sp_at 3 (a2 % 4) a0 y0 y1 b0 b1
      rw [tb_3] at ex ey
      all_goals
        go_wp2_with fail
        refine (screen_ok _ 3 _ (by omega) (by omega) (by omega) (by omega) (by omega) (by omega)).mono ?_
        rintro e w1 ⟨rfl, g1⟩
        go_wp2_with fail
        refine (screen_ok _ 3 _ (by omega) (by omega) (by omega) (by omega) (by omega) (by omega)).mono ?_
        rintro e w2 ⟨rfl, g2⟩
        go_wp2
        go_roundw
        case rel => exact ⟨4, by omega, rfl, gtrans (gtrans hg g1) g2⟩
        case measure => simp [intOf]
    · have ex := sp_at 4 (a1 % 4) a0 x0 x1 b0 b1
      have ey := sp_at 4 (a2 % 4) a0 y0 y1 b0 b1
      rw [tb_4] at ex ey
      have hn : (1024 * (a1 % 4) + a0 == 1024 * (a2 % 4) + a0) = (a1 % 4 == a2 % 4) := by
        rw [Bool.eq_iff_iff, beq_iff_eq, beq_iff_eq]
        omega
      rcases Bool.eq_false_or_eq_true (a1 % 4 == a2 % 4) with hs | hs
      all_goals
        go_wp2_with fail
        refine (screen_ok _ 4 _ (by omega) (by omega) (by omega) (by omega) (by omega) (by omega)).mono ?_
        rintro e w1 ⟨rfl, g1⟩
        go_wp2_with fail
        refine (screen_ok _ 4 _ (by omega) (by omega) (by omega) (by omega) (by omega) (by omega)).mono ?_
        rintro e w2 ⟨rfl, g2⟩
        go_wp2
        go_roundw
        case rel => exact ⟨5, by omega, rfl, gtrans (gtrans hg g1) g2⟩
        case measure => simp [intOf]
    · go_wp2_with fail
      refine (awake_any _).mono ?_
      rintro e w1 ⟨rfl, g1⟩
      go_wp2
      go_ret
      exact ⟨rfl, gtrans hg g1⟩

/-! ### THE ROW's STEP: WRITTEN OUT: LEAVE IT -/
set_option maxRecDepth 100000 in
theorem lifted (os : Os) (started : os.Started) (H : Type) (enc : TypeId × Value → H) :
    ReturnsInHanded {} Try.checked os 5 .any (Rows.vramMirrorsSpec.pre6 enc Try.prog Try.f5 Rows.vramMirrorsRow.domain false) (Rows.vramMirrorsSpec.post enc Try.prog Try.f5 false true false false) := by
  refine returnsInHanded_of_change (C := Try.checked) own started (by kernel_rfl) Try.func5
    (ChangeSpec.witness6 (enc := enc) (C := Try.checked) false ⟨#[], #[.int .u8 0, .int .u8 0, .int .u8 0], []⟩ 8 (by kernel_rfl) (by kernel_rfl) (by kernel_rfl) (by kernel_rfl)) ?_
  intro W base args ds gs before hval0 hW hcnd _
  have hval : ∀ (j : Nat) t v, Try.f5.params[j]? = some t → args[j]? = some v → Value.okWide Try.prog W .any base t v := hval0
  have hW' := hW
  obtain ⟨p, q, hA0, hV, rfl, hfz, hnd⟩ := hW
  have hA : DataW.TrodAll enc Try.prog W 0 (fun _ => true) true Try.f5.params.toList args.toList ds p := hA0
  rw [Try.params5] at hA hval
  obtain ⟨v0, vs0, d0, ds0, p0, q0, hargs, rfl, rfl, h0, r0⟩ := trodAll_cons hA
  obtain ⟨v1, vs1, d1, ds1, p1, q1, rfl, rfl, rfl, h1, r1⟩ := trodAll_cons r0
  obtain ⟨v2, vs2, d2, ds2, p2, q2, rfl, rfl, rfl, h2, r2⟩ := trodAll_cons r1
  obtain ⟨rfl, rfl, rfl⟩ := trodAll_nil r2
  obtain rfl : args = #[v0, v1, v2] := by cases args; simp_all
  obtain ⟨rfl, rfl⟩ := trodVars_none hV
  obtain ⟨a0, rfl, rfl, rfl, w0⟩ := open_int Try.underlying5 (hval 0 5 v0 rfl rfl) h0
  obtain ⟨a1, rfl, rfl, rfl, w1⟩ := open_int Try.underlying5 (hval 1 5 v1 rfl rfl) h1
  obtain ⟨a2, rfl, rfl, rfl, w2⟩ := open_int Try.underlying5 (hval 2 5 v2 rfl rfl) h2
  clear hA0 hval0
  simp only [List.append_nil] at hW'
  refine (walk a0 a1 a2 w0 w1 w2 W).mono fun e W' ⟨he, hg⟩ => ?_
  subst he
  exact ⟨_, rfl, post_of_same (pa := []) (pv := []) hW' (fun _ _ _ => (trodAll_cons_mk (shut_bool Try.underlying4 _) trodAll_mk0)) (fun sp _ => (trodAll_cons_mk (shut_int Try.underlying5 w0) (trodAll_cons_mk (shut_int Try.underlying5 w1) (trodAll_cons_mk (shut_int Try.underlying5 w2) trodAll_mk0)))) (fun _ _ => rfl) rfl
    (hg.frame _) hg.2.1 (ok_one (by kernel_rfl) rfl (okWide_bool_mk Try.underlying4 _))⟩

theorem over : Rows.vramMirrorsRow.holds Try.pinned (OpenSpec.ofChange Rows.vramMirrorsSpec) :=
  OpenClaim.holds_of_wide 5 Try.f5 rfl rfl rfl rfl rfl rfl rfl ⟨rfl, rfl, rfl, rfl, rfl⟩ rfl rfl rfl rfl rfl (by kernel_rfl) Try.func5 (by kernel_rfl)
    (of_decide_eq_true (by kernel_rfl)) (by unfold Func.isWrapper; first | (rw [if_pos (by decide +kernel)]; kernel_rfl) | (rw [if_neg (by decide +kernel)]; exact ⟨rfl, rfl⟩))
    (fun os started H enc _ => lifted os started H enc)

/-- THE STATEMENT -/
theorem proved : Rows.VramMirrorsSaid :=
  over
#print axioms proved
end Go.Proofs.Ytbimklogfaihlaa.vramMirrors
