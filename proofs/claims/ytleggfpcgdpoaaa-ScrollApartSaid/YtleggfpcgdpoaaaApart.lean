/-
  ScrollApart: at every input the law returns true and leaves its arguments as they were. No condition.
-/
import Derived.Test.YtleggfpcgdpoaaaA
import Derived.Test.YtleggfpcgdpoaaaF
import Derived.Test.YtleggfpcgdpoaaaPl3
import Derived.OpenShut
import Derived.BigQuiet
namespace Go.Proofs.Ytleggfpcgdpoaaa.scrollApart
open Go.Proofs.Ytleggfpcgdpoaaa
open Go.ChangeShapes Go.WideShapes Go.ChangeAt Go.RowKit
set_option linter.unusedVariables false

set_option maxRecDepth 100000 in
set_option maxHeartbeats 4000000 in
theorem walk (v : Int) (t : Int) (x : Int) (b : Bool) (w_v : (Lit.int .u16 v).wf = true) (w_t : (Lit.int .u16 t).wf = true) (w_x : (Lit.int .u8 x).wf = true) (w : World) :
    Calls Try.prog 5 #[.agg #[.int .u16 v, .int .u16 t, .int .u8 x, .bool b]] w fun r w' => r = .returned (.bool true) ∧ Below w.heap.size w w' := by
  obtain ⟨v0, v1⟩ := bounds_u16 w_v
  obtain ⟨t0, t1⟩ := bounds_u16 w_t
  obtain ⟨x0, x1⟩ := bounds_u8 w_x
  clear w_v w_t w_x
  by_cases hm : v ≤ 32767 ∧ t ≤ 32767 ∧ x ≤ 7
  · obtain ⟨v2, t2, x2⟩ := hm
    obtain ⟨r, d, rd, a, p, e1, e2, e3, e4, e5, e6, e7, e8, ⟨r0, r1⟩, ⟨d0, d1⟩, ⟨a0, a1⟩, ⟨p0, p1⟩, ⟨f1, f2⟩, f3, f4⟩ := apart_plain v t v0 v2 t0 t2
    have g1 : bits .and .u16 (bits .xor .u16 r v) 31712 = 0 := m31712.same r v r0 (by omega) v0 (by omega) (by omega)
    have g2 : bits .and .u16 (bits .xor .u16 d v) 1055 = 0 := m1055.same d v d0 (by omega) v0 (by omega) (by omega)
    obtain ⟨y1, hy1⟩ : ∃ y, bits .xor .u16 r v = y := ⟨_, rfl⟩
    obtain ⟨y2, hy2⟩ : ∃ y, bits .xor .u16 d v = y := ⟨_, rfl⟩
    rw [hy1] at g1
    rw [hy2] at g2
    clear f1 f2 f3 f4
    go_enter Try.func5, Try.ntmps5
    go_wp2_with fail
    refine (check_ok v t x b _ v2 t2 x2).mono ?_
    rintro e w1 ⟨rfl, z1⟩
    have hS := Lib.hid (old_in (heap_alloc_new w (.cells #[.int .u16 v, .int .u16 t, .int .u8 x, .bool b] 24)) z1)
    have hG := Lib.hid (below_new (Below.refl _ _) (Nat.le_refl _) z1)
    clear z1
    have kS := cells_of hS.out
    go_wp2_with fail
    refine (right_any v t x b _ v0 v2 t0 t2 x2).mono ?_
    rintro e w2 ⟨he, z⟩
    rw [e1] at he
    subst he
    clear kS
    replace hS := Lib.hid (old_in hS.out z)
    replace hG := Lib.hid (below_call hG.out z)
    clear z
    go_wp2_with fail
    refine (down_any r t x b _ r0 r1 t0 t2 x2).mono ?_
    rintro e w3 ⟨he, z⟩
    rw [e3] at he
    subst he
    replace hS := Lib.hid (old_in (old_new hS.out _) z)
    have hr := Lib.hid (new_at z rfl)
    replace hG := Lib.hid (below_new hG.out hG.out.size z)
    clear z
    have kS := cells_of (old_new hS.out (.cells #[.int .u16 rd, .int .u16 t, .int .u8 x, .bool b] 24 (0, 0)))
    go_wp2_with fail
    refine (down_any v t x b _ v0 v2 t0 t2 x2).mono ?_
    rintro e w4 ⟨he, z⟩
    rw [e2] at he
    subst he
    clear kS
    replace hS := Lib.hid (old_in (old_new hS.out _) z)
    replace hr := Lib.hid (old_in (old_new hr.out _) z)
    have hrd := Lib.hid (new_at z rfl)
    replace hG := Lib.hid (below_new hG.out hG.out.size z)
    clear z
    go_wp2_with fail
    refine (right_any d t x b _ d0 d1 t0 t2 x2).mono ?_
    rintro e w5 ⟨he, z⟩
    rw [e4] at he
    subst he
    replace hS := Lib.hid (old_in (old_new hS.out _) z)
    replace hr := Lib.hid (old_in (old_new hr.out _) z)
    replace hrd := Lib.hid (old_in (old_new hrd.out _) z)
    have hd := Lib.hid (new_at z rfl)
    replace hG := Lib.hid (below_new hG.out hG.out.size z)
    clear z
    have kS := cells_of (old_new hS.out (.cells #[.int .u16 rd, .int .u16 t, .int .u8 x, .bool b] 24 (0, 0)))
    go_wp2_with fail
    refine (across_any v t x b _ v0 v2 t0 t2 x2).mono ?_
    rintro e w6 ⟨he, z⟩
    rw [e5] at he
    subst he
    clear kS
    replace hS := Lib.hid (old_in (old_new hS.out _) z)
    replace hr := Lib.hid (old_in (old_new hr.out _) z)
    replace hrd := Lib.hid (old_in (old_new hrd.out _) z)
    replace hd := Lib.hid (old_in (old_new hd.out _) z)
    have hdr := Lib.hid (new_at z rfl)
    replace hG := Lib.hid (below_new hG.out hG.out.size z)
    clear z
    go_wp2_with fail
    refine (top_any a t x b _ a0 a1 t0 t2 x2).mono ?_
    rintro e w7 ⟨he, z⟩
    rw [e6] at he
    subst he
    replace hS := Lib.hid (old_in (old_new hS.out _) z)
    replace hr := Lib.hid (old_in (old_new hr.out _) z)
    replace hrd := Lib.hid (old_in (old_new hrd.out _) z)
    replace hd := Lib.hid (old_in (old_new hd.out _) z)
    replace hdr := Lib.hid (old_in (old_new hdr.out _) z)
    have ha := Lib.hid (new_at z rfl)
    replace hG := Lib.hid (below_new hG.out hG.out.size z)
    clear z
    have kS := cells_of (old_new hS.out (.cells #[.int .u16 t, .int .u16 t, .int .u8 x, .bool b] 24 (0, 0)))
    go_wp2_with fail
    refine (top_any v t x b _ v0 v2 t0 t2 x2).mono ?_
    rintro e w8 ⟨he, z⟩
    rw [e7] at he
    subst he
    clear kS
    replace hS := Lib.hid (old_in (old_new hS.out _) z)
    replace hr := Lib.hid (old_in (old_new hr.out _) z)
    replace hrd := Lib.hid (old_in (old_new hrd.out _) z)
    replace hd := Lib.hid (old_in (old_new hd.out _) z)
    replace hdr := Lib.hid (old_in (old_new hdr.out _) z)
    replace ha := Lib.hid (old_in (old_new ha.out _) z)
    have hat := Lib.hid (new_at z rfl)
    replace hG := Lib.hid (below_new hG.out hG.out.size z)
    clear z
    go_wp2_with fail
    refine (across_any p t x b _ p0 p1 t0 t2 x2).mono ?_
    rintro e w9 ⟨he, z⟩
    rw [e8] at he
    subst he
    replace hS := Lib.hid (old_in (old_new hS.out _) z)
    replace hr := Lib.hid (old_in (old_new hr.out _) z)
    replace hrd := Lib.hid (old_in (old_new hrd.out _) z)
    replace hd := Lib.hid (old_in (old_new hd.out _) z)
    replace hdr := Lib.hid (old_in (old_new hdr.out _) z)
    replace ha := Lib.hid (old_in (old_new ha.out _) z)
    replace hat := Lib.hid (old_in (old_new hat.out _) z)
    have hq := Lib.hid (new_at z rfl)
    replace hG := Lib.hid (below_new hG.out hG.out.size z)
    clear z
    clear e1 e2 e3 e4 e5 e6 e7 e8
    have kS := cells_of (old_new hS.out (.cells #[.int .u16 t, .int .u16 t, .int .u8 x, .bool b] 24 (0, 0)))
    have kr := cells_of (old_new hr.out (.cells #[.int .u16 t, .int .u16 t, .int .u8 x, .bool b] 24 (0, 0)))
    have krd := cells_of (old_new hrd.out (.cells #[.int .u16 t, .int .u16 t, .int .u8 x, .bool b] 24 (0, 0)))
    have kd := cells_of (old_new hd.out (.cells #[.int .u16 t, .int .u16 t, .int .u8 x, .bool b] 24 (0, 0)))
    have kdr := cells_of (old_new hdr.out (.cells #[.int .u16 t, .int .u16 t, .int .u8 x, .bool b] 24 (0, 0)))
    have kat := cells_of (old_new hat.out (.cells #[.int .u16 t, .int .u16 t, .int .u8 x, .bool b] 24 (0, 0)))
    go_wp2_with fail
    refine (awake_any _).mono ?_
    rintro e wl ⟨rfl, z⟩
    replace hG := Lib.hid (below_new hG.out hG.out.size z)
    clear z kS kr krd kd kdr kat
    go_wp2
    go_ret
    exact ⟨rfl, hG.out⟩
  · go_enter Try.func5, Try.ntmps5
    go_wp2_with fail
    refine (check_bad v t x b _ hm).mono ?_
    rintro e w1 ⟨rfl, z1⟩
    have hG := Lib.hid (below_new (Below.refl w.heap.size w) (Nat.le_refl _) z1)
    clear z1
    go_wp2_with fail
    refine (awake_any _).mono ?_
    rintro e w2 ⟨rfl, z2⟩
    go_wp2
    go_ret
    exact ⟨rfl, below_call hG.out z2⟩

set_option maxRecDepth 100000 in
theorem lifted (os : Os) (started : os.Started) (H : Type) (enc : TypeId × Value → H) :
    ReturnsInHanded {} Try.checked os 5 .any (Rows.scrollApartSpec.pre6 enc Try.prog Try.f5 Rows.scrollApartRow.domain false) (Rows.scrollApartSpec.post enc Try.prog Try.f5 false true false false) := by
  refine returnsInHanded_of_change (C := Try.checked) own started (by kernel_rfl) Try.func5
    (ChangeSpec.witness6 (enc := enc) (C := Try.checked) false ⟨#[], #[.agg #[.int .u16 0, .int .u16 0, .int .u8 0, .bool false]], []⟩ 8 (by kernel_rfl) (by kernel_rfl) (by kernel_rfl) (by kernel_rfl)) ?_
  intro W base args ds gs before hval0 hW hcnd _
  have hval : ∀ (j : Nat) t v, Try.f5.params[j]? = some t → args[j]? = some v → Value.okWide Try.prog W .any base t v := hval0
  have hW' := hW
  obtain ⟨p, q, hA0, hV, rfl, hfz, hnd⟩ := hW
  have hA : DataW.TrodAll enc Try.prog W 0 (fun _ => true) true Try.f5.params.toList args.toList ds p := hA0
  rw [Try.params5] at hA hval
  obtain ⟨v0, vs0, d0, ds0, p0, q0, hargs, rfl, rfl, h0, r0⟩ := trodAll_cons hA
  obtain ⟨rfl, rfl, rfl⟩ := trodAll_nil r0
  obtain rfl : args = #[v0] := by cases args; simp_all
  obtain ⟨rfl, rfl⟩ := trodVars_none hV
  obtain ⟨v, t, x, b, rfl, rfl, w_v, w_t, w_x⟩ := open_scroll (hval 0 24 v0 rfl rfl) h0
  clear hA0 hval0
  simp only [List.append_nil] at hW'
  refine (walk v t x b w_v w_t w_x W).mono fun e W' ⟨he, hg⟩ => ?_
  subst he
  exact ⟨_, rfl, _, _, _, [], _, [], hW', trodAll_mk1 (shut_bool Try.underlying4 _), (trodAll_cons_mk (stay24 h0) trodAll_mk0), rfl, hg.frame _, fun h => by cases h⟩

theorem over : Rows.scrollApartRow.holds Try.pinned (OpenSpec.ofChange Rows.scrollApartSpec) :=
  OpenClaim.holds_of_wide 5 Try.f5 rfl rfl rfl rfl rfl rfl rfl ⟨rfl, rfl, rfl, rfl, rfl⟩ rfl rfl rfl rfl rfl (by kernel_rfl) Try.func5 (by kernel_rfl)
    (of_decide_eq_true (by kernel_rfl)) (by unfold Func.isWrapper; first | (rw [if_pos (by decide +kernel)]; kernel_rfl) | (rw [if_neg (by decide +kernel)]; exact ⟨rfl, rfl⟩))
    (fun os started H enc _ => lifted os started H enc)

/-- THE STATEMENT -/
theorem proved : Rows.ScrollApartSaid :=
  over
#print axioms proved
end Go.Proofs.Ytleggfpcgdpoaaa.scrollApart
