/-
  TileFine: at every input the law returns true and leaves its arguments as they were. No condition.
-/
import Derived.Test.YtnmobjjinidmiaaF
import Derived.Test.YtnmobjjinidmiaaA
import Derived.Test.YtnmobjjinidmiaaPl2
import Derived.OpenShut
namespace Go.Proofs.Ytnmobjjinidmiaa.tileFine
open Go.Proofs.Ytnmobjjinidmiaa
open Go.ChangeShapes Go.WideShapes Go.ChangeAt Go.RowKit
set_option linter.unusedVariables false

set_option maxHeartbeats 1000000 in
theorem walk (a : Int) (b : Int) (c : Int) (d : Int) (e : Int) (lv : Int) (ls : Bool) (hv : Int) (hs : Bool) (ti : Int) (s : Bool) (u : Int) (w_a : (Lit.int .u16 a).wf = true) (w_b : (Lit.int .u16 b).wf = true) (w_c : (Lit.int .u16 c).wf = true) (w_d : (Lit.int .u16 d).wf = true) (w_e : (Lit.int .u16 e).wf = true) (w_lv : (Lit.int .u8 lv).wf = true) (w_hv : (Lit.int .u8 hv).wf = true) (w_ti : (Lit.int .u8 ti).wf = true) (w_u : (Lit.int .u8 u).wf = true) (w : World) :
    Calls Try.prog 4 #[.agg #[.int .u16 a, .int .u16 b, .int .u16 c, .int .u16 d, .int .u16 e, .int .u8 lv, .bool ls, .int .u8 hv, .bool hs, .int .u8 ti, .bool s, .int .u8 u]] w fun r w' => r = .returned (.bool true) ∧ Below w.heap.size w w' := by
  obtain ⟨a0, a1⟩ := bounds_u16 w_a
  obtain ⟨b0, b1⟩ := bounds_u16 w_b
  obtain ⟨c0, c1⟩ := bounds_u16 w_c
  obtain ⟨d0, d1⟩ := bounds_u16 w_d
  obtain ⟨e0, e1⟩ := bounds_u16 w_e
  obtain ⟨u0, u1⟩ := bounds_u8 w_u
  clear w_a w_b w_c w_d w_e w_u w_lv w_hv w_ti
  obtain ⟨k, hk⟩ : ∃ k : Nat, u % 8 = k := ⟨(u % 8).toNat, by omega⟩
  have hk8 : k < 8 := by omega
  have hq := quo8 u u0 u1
  have q1 := dv_fine k hk8 a b c d a0 a1 b0 b1 c0 c1 d0 d1
  have q2 := ds_fine k hk8 e e0 e1
  have q3 := dv_mod a b c d (k + 8 * (u / 8)) k (by omega)
  have q4 := ds_mod e (k + 8 * (u / 8)) k (by omega)
  go_enter Try.func4, Try.ntmps4
  go_wp2_with fail
  refine (dot_any a b c d e k _ a0 a1 b0 b1 c0 c1 d0 d1 e0 e1 (by omega) (by omega)).mono ?_
  rintro r w1 ⟨rfl, z1⟩
  have k1 := cells_in z1
  have y1 := Lib.hid (new_in z1)
  have g1 := Lib.hid (below_new (Below.refl _ _) (Nat.le_refl _) z1)
  clear z1
  go_wp2_with fail
  refine (shifted_any k (by omega) a b c d e _).mono ?_
  rintro r w2 ⟨rfl, z2⟩
  have y2 := Lib.hid (old_in y1.out z2)
  have g2 := Lib.hid (below_call g1.out z2)
  clear z2 k1 y1 g1
  go_wp2_with fail
  obtain ⟨l0, l1⟩ := shn_bd k a a0 a1
  obtain ⟨m0, m1⟩ := shn_bd k b b0 b1
  obtain ⟨n0, n1⟩ := shn_bd k c c0 c1
  obtain ⟨o0, o1⟩ := shn_bd k d d0 d1
  obtain ⟨p0, p1⟩ := shn_bd k e e0 e1
  refine (dot_any _ _ _ _ _ 0 _ l0 l1 m0 m1 n0 n1 o0 o1 p0 p1 (by omega) (by omega)).mono ?_
  rintro r w3 ⟨rfl, z3⟩
  have y3 := Lib.hid (old_in y2.out z3)
  have g3 := Lib.hid (below_call g2.out z3)
  have k3 := cells_of y3.out
  clear z3 y2 g2 l0 l1 m0 m1 n0 n1 o0 o1 p0 p1
  go_wp2_with fail
  refine (dot_any a b c d e (k + 8 * (u / 8)) _ a0 a1 b0 b1 c0 c1 d0 d1 e0 e1 (by omega) (by omega)).mono ?_
  rintro r w4 ⟨rfl, z4⟩
  have g4 := Lib.hid (below_call g3.out z4)
  clear z4 y3 g3 k3
  go_wp2_with fail
  refine (awake_any _).mono ?_
  rintro r w5 ⟨rfl, z5⟩
  go_wp2
  go_ret
  exact ⟨rfl, below_call g4.out z5⟩

set_option maxRecDepth 100000 in
theorem lifted (os : Os) (started : os.Started) (H : Type) (enc : TypeId × Value → H) :
    ReturnsInHanded {} Try.checked os 4 .any (Rows.tileFineSpec.pre6 enc Try.prog Try.f4 Rows.tileFineRow.domain false) (Rows.tileFineSpec.post enc Try.prog Try.f4 false true false false) := by
  refine returnsInHanded_of_change (C := Try.checked) own started (by kernel_rfl) Try.func4
    (ChangeSpec.witness6 (enc := enc) (C := Try.checked) false ⟨#[], #[.agg #[.int .u16 0, .int .u16 0, .int .u16 0, .int .u16 0, .int .u16 0, .int .u8 0, .bool false, .int .u8 0, .bool false, .int .u8 0, .bool false, .int .u8 0]], []⟩ 8 (by kernel_rfl) (by kernel_rfl) (by kernel_rfl) (by kernel_rfl)) ?_
  intro W base args ds gs before hval0 hW hcnd _
  have hval : ∀ (j : Nat) t v, Try.f4.params[j]? = some t → args[j]? = some v → Value.okWide Try.prog W .any base t v := hval0
  have hW' := hW
  obtain ⟨p, q, hA0, hV, rfl, hfz, hnd⟩ := hW
  have hA : DataW.TrodAll enc Try.prog W 0 (fun _ => true) true Try.f4.params.toList args.toList ds p := hA0
  rw [Try.params4] at hA hval
  obtain ⟨v0, vs0, d0, ds0, p0, q0, hargs, rfl, rfl, h0, r0⟩ := trodAll_cons hA
  obtain ⟨rfl, rfl, rfl⟩ := trodAll_nil r0
  obtain rfl : args = #[v0] := by cases args; simp_all
  obtain ⟨rfl, rfl⟩ := trodVars_none hV
  obtain ⟨a, b, c, d, e, lv, ls, hv, hs, ti, s, u, rfl, rfl, w_a, w_b, w_c, w_d, w_e, w_lv, w_hv, w_ti, w_u⟩ := open_ask (hval 0 28 v0 rfl rfl) h0
  clear hA0 hval0
  simp only [List.append_nil] at hW'
  refine (walk a b c d e lv ls hv hs ti s u w_a w_b w_c w_d w_e w_lv w_hv w_ti w_u W).mono fun e W' ⟨he, hg⟩ => ?_
  subst he
  exact ⟨_, rfl, _, _, _, [], _, [], hW', trodAll_mk1 (shut_bool Try.underlying4 _), (trodAll_cons_mk (stay28 h0) trodAll_mk0), rfl, hg.frame _, fun h => by cases h⟩

theorem over : Rows.tileFineRow.holds Try.pinned (OpenSpec.ofChange Rows.tileFineSpec) :=
  OpenClaim.holds_of_wide 4 Try.f4 rfl rfl rfl rfl rfl rfl rfl ⟨rfl, rfl, rfl, rfl, rfl⟩ rfl rfl rfl rfl rfl (by kernel_rfl) Try.func4 (by kernel_rfl)
    (of_decide_eq_true (by kernel_rfl)) (by unfold Func.isWrapper; first | (rw [if_pos (by decide +kernel)]; kernel_rfl) | (rw [if_neg (by decide +kernel)]; exact ⟨rfl, rfl⟩))
    (fun os started H enc _ => lifted os started H enc)

/-- THE STATEMENT -/
theorem proved : Rows.TileFineSaid :=
  over
#print axioms proved
end Go.Proofs.Ytnmobjjinidmiaa.tileFine
