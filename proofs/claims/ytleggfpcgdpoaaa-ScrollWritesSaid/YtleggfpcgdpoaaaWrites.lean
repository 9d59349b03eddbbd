/-
  ScrollWrites: at every input the law returns true and leaves its arguments as they were. No condition.
-/
import Derived.Test.YtleggfpcgdpoaaaA
import Derived.Test.YtleggfpcgdpoaaaF
import Derived.Test.YtleggfpcgdpoaaaPl2
import Derived.OpenShut
import Derived.BigQuiet
namespace Go.Proofs.Ytleggfpcgdpoaaa.scrollWrites
open Go.Proofs.Ytleggfpcgdpoaaa
open Go.ChangeShapes Go.WideShapes Go.ChangeAt Go.RowKit
set_option linter.unusedVariables false

set_option maxRecDepth 100000 in
set_option maxHeartbeats 4000000 in
theorem walk (v : Int) (t : Int) (x : Int) (b : Bool) (w_v : (Lit.int .u16 v).wf = true) (w_t : (Lit.int .u16 t).wf = true) (w_x : (Lit.int .u8 x).wf = true) (n : Int) (w_n : (Lit.int .u16 n).wf = true) (w : World) :
    Calls Try.prog 3 #[.agg #[.int .u16 v, .int .u16 t, .int .u8 x, .bool b], .int .u16 n] w fun r w' => r = .returned (.bool true) ∧ Below w.heap.size w w' := by
  obtain ⟨v0, v1⟩ := bounds_u16 w_v
  obtain ⟨t0, t1⟩ := bounds_u16 w_t
  obtain ⟨x0, x1⟩ := bounds_u8 w_x
  obtain ⟨n0, n1⟩ := bounds_u16 w_n
  clear w_v w_t w_x w_n
  by_cases hm : v ≤ 32767 ∧ t ≤ 32767 ∧ x ≤ 7
  · obtain ⟨v2, t2, x2⟩ := hm
    have hal : 0 ≤ al t (n / 256) ∧ al t (n / 256) ≤ 32767 := by unfold al; omega
    obtain ⟨A, hA⟩ : ∃ A, ah (al t (n / 256)) (n % 256) = A := ⟨_, rfl⟩
    have fA : bits .and .u16 n 16383 = A := by
      rw [show (16383 : Int) = ((16383 : Nat) : Int) from rfl, m16383.and n n0 (by omega), ← hA]
      unfold ah al
      omega
    obtain ⟨T, hT, T0, T1, fT1, fT2, fT3, fT4, hwl, hac, hW⟩ := writes_plain v t (n / 256) (n % 256) v0 v2 t0 t2 (by omega) (by omega) (by omega) (by omega)
    have g1 : bits .and .u16 T 31 = n / 256 / 8 := (m31.and T T0 (by omega)).trans fT1
    have g2 : bits .and .u16 (T / 32) 31 = n % 256 / 8 := (m31.and (T / 32) (by omega) (by omega)).trans fT2
    have g3 : bits .and .u16 T 3072 = 1024 * (t / 1024 % 4) := (m3072.and T T0 (by omega)).trans (by omega)
    have g4 : bits .and .u16 t 3072 = 1024 * (t / 1024 % 4) := m3072.and t t0 (by omega)
    have g5 := u8_and7 (n / 256) (by omega) (by omega)
    have g6 := u8_and7 (n % 256) (by omega) (by omega)
    clear fT1 fT2 fT4
    go_enter Try.func3, Try.ntmps3
    go_wp2_with fail
    refine (check_ok v t x b _ v2 t2 x2).mono ?_
    rintro e w1 ⟨rfl, z1⟩
    have hS := Lib.hid (old_in (heap_alloc_new w (.cells #[.int .u16 v, .int .u16 t, .int .u8 x, .bool b] 24)) z1)
    have hG := Lib.hid (below_new (Below.refl _ _) (Nat.le_refl _) z1)
    clear z1
    have kS := cells_of hS.out
    go_wp2_with fail
    refine (status_any v t x b _ v0 v2 t0 t2 x2).mono ?_
    rintro e w2 ⟨rfl, z⟩
    clear kS
    replace hS := Lib.hid (old_in hS.out z)
    replace hG := Lib.hid (below_call hG.out z)
    clear z
    go_wp2_with fail
    refine (addr_lo_any v t x (n / 256) _ v0 v2 t0 t2 x2 (by omega) (by omega)).mono ?_
    rintro e w3 ⟨rfl, z⟩
    replace hS := Lib.hid (old_in (old_new hS.out _) z)
    have ha := Lib.hid (new_at z rfl)
    replace hG := Lib.hid (below_new hG.out hG.out.size z)
    clear z
    go_wp2_with fail
    refine (addr_hi_any v (al t (n / 256)) x (n % 256) _ v0 v2 hal.1 hal.2 x2 (by omega) (by omega)).mono ?_
    rintro e w4 ⟨he, z⟩
    rw [hA] at he
    subst he
    replace hS := Lib.hid (old_in (old_new hS.out _) z)
    replace ha := Lib.hid (old_in (old_new ha.out _) z)
    have hb := Lib.hid (new_at z rfl)
    replace hG := Lib.hid (below_new hG.out hG.out.size z)
    clear z
    have ka := cells_of (old_new ha.out (.cells #[.int .u16 A, .int .u16 A, .int .u8 x, .bool false] 24 (0, 0)))
    go_wp2_with fail
    refine (write_lo_any v t x (n / 256) _ v0 v2 t0 t2 x2 (by omega) (by omega)).mono ?_
    rintro e w5 ⟨rfl, z⟩
    clear ka
    replace hS := Lib.hid (old_in (old_new hS.out _) z)
    replace ha := Lib.hid (old_in (old_new ha.out _) z)
    replace hb := Lib.hid (old_in (old_new hb.out _) z)
    have hc := Lib.hid (new_at z rfl)
    replace hG := Lib.hid (below_new hG.out hG.out.size z)
    clear z
    go_wp2_with fail
    refine (write_hi_any v (wl t (n / 256)) (n / 256 % 8) (n % 256) _ v0 v2 hwl.1 hwl.2 (by omega) (by omega) (by omega)).mono ?_
    rintro e w6 ⟨he, z⟩
    rw [hT] at he
    subst he
    replace hS := Lib.hid (old_in (old_new hS.out _) z)
    replace ha := Lib.hid (old_in (old_new ha.out _) z)
    replace hb := Lib.hid (old_in (old_new hb.out _) z)
    replace hc := Lib.hid (old_in (old_new hc.out _) z)
    have hx := Lib.hid (new_at z rfl)
    replace hG := Lib.hid (below_new hG.out hG.out.size z)
    clear z
    go_wp2_with fail
    refine (across_any v T (n / 256 % 8) false _ v0 v2 T0 T1 (by omega)).mono ?_
    rintro e w7 ⟨rfl, z⟩
    replace hS := Lib.hid (old_in (old_new hS.out _) z)
    replace ha := Lib.hid (old_in (old_new ha.out _) z)
    replace hb := Lib.hid (old_in (old_new hb.out _) z)
    replace hc := Lib.hid (old_in (old_new hc.out _) z)
    replace hx := Lib.hid (old_in (old_new hx.out _) z)
    have hy := Lib.hid (new_at z rfl)
    replace hG := Lib.hid (below_new hG.out hG.out.size z)
    clear z
    go_wp2_with fail
    refine (top_any (ac v T) T (n / 256 % 8) false _ hac.1 hac.2 T0 T1 (by omega)).mono ?_
    rintro e w8 ⟨he, z⟩
    rw [hW] at he
    subst he
    replace hS := Lib.hid (old_in (old_new hS.out _) z)
    replace ha := Lib.hid (old_in (old_new ha.out _) z)
    replace hb := Lib.hid (old_in (old_new hb.out _) z)
    replace hc := Lib.hid (old_in (old_new hc.out _) z)
    replace hx := Lib.hid (old_in (old_new hx.out _) z)
    replace hy := Lib.hid (old_in (old_new hy.out _) z)
    have hz := Lib.hid (new_at z rfl)
    replace hG := Lib.hid (below_new hG.out hG.out.size z)
    clear z
    have kS := cells_of (old_new hS.out (.cells #[.int .u16 T, .int .u16 T, .int .u8 (n / 256 % 8), .bool false] 24 (0, 0)))
    have ka := cells_of (old_new ha.out (.cells #[.int .u16 T, .int .u16 T, .int .u8 (n / 256 % 8), .bool false] 24 (0, 0)))
    have kb := cells_of (old_new hb.out (.cells #[.int .u16 T, .int .u16 T, .int .u8 (n / 256 % 8), .bool false] 24 (0, 0)))
    have kc := cells_of (old_new hc.out (.cells #[.int .u16 T, .int .u16 T, .int .u8 (n / 256 % 8), .bool false] 24 (0, 0)))
    go_wp2_with fail
    refine (awake_any _).mono ?_
    rintro e wl ⟨rfl, z⟩
    replace hG := Lib.hid (below_new hG.out hG.out.size z)
    clear z kS ka kb kc
    go_wp2
    go_ret
    exact ⟨rfl, hG.out⟩
  · go_enter Try.func3, Try.ntmps3
    go_wp2_with fail
    refine (check_bad v t x b _ hm).mono ?_
    rintro e w1 ⟨rfl, z1⟩
    have hG := Lib.hid (below_new (Below.refl w.heap.size w) (Nat.le_refl _) z1)
    clear z1
    go_wp2_with fail
    refine (awake_any _).mono ?_
    rintro e w2 ⟨rfl, z2⟩
    go_wp2
    go_ret
    exact ⟨rfl, below_call hG.out z2⟩

set_option maxRecDepth 100000 in
theorem lifted (os : Os) (started : os.Started) (H : Type) (enc : TypeId × Value → H) :
    ReturnsInHanded {} Try.checked os 3 .any (Rows.scrollWritesSpec.pre6 enc Try.prog Try.f3 Rows.scrollWritesRow.domain false) (Rows.scrollWritesSpec.post enc Try.prog Try.f3 false true false false) := by
  refine returnsInHanded_of_change (C := Try.checked) own started (by kernel_rfl) Try.func3
    (ChangeSpec.witness6 (enc := enc) (C := Try.checked) false ⟨#[], #[.agg #[.int .u16 0, .int .u16 0, .int .u8 0, .bool false], .int .u16 0], []⟩ 8 (by kernel_rfl) (by kernel_rfl) (by kernel_rfl) (by kernel_rfl)) ?_
  intro W base args ds gs before hval0 hW hcnd _
  have hval : ∀ (j : Nat) t v, Try.f3.params[j]? = some t → args[j]? = some v → Value.okWide Try.prog W .any base t v := hval0
  have hW' := hW
  obtain ⟨p, q, hA0, hV, rfl, hfz, hnd⟩ := hW
  have hA : DataW.TrodAll enc Try.prog W 0 (fun _ => true) true Try.f3.params.toList args.toList ds p := hA0
  rw [Try.params3] at hA hval
  obtain ⟨v0, vs0, d0, ds0, p0, q0, hargs, rfl, rfl, h0, r0⟩ := trodAll_cons hA
  obtain ⟨v1, vs1, d1, ds1, p1, q1, rfl, rfl, rfl, h1, r1⟩ := trodAll_cons r0
  obtain ⟨rfl, rfl, rfl⟩ := trodAll_nil r1
  obtain rfl : args = #[v0, v1] := by cases args; simp_all
  obtain ⟨rfl, rfl⟩ := trodVars_none hV
  obtain ⟨v, t, x, b, rfl, rfl, w_v, w_t, w_x⟩ := open_scroll (hval 0 24 v0 rfl rfl) h0
  obtain ⟨n, rfl, rfl, rfl, w_n⟩ := open_int Try.underlying22 (hval 1 22 v1 rfl rfl) h1
  clear hA0 hval0
  simp only [List.append_nil] at hW'
  refine (walk v t x b w_v w_t w_x n w_n W).mono fun e W' ⟨he, hg⟩ => ?_
  subst he
  exact ⟨_, rfl, _, _, _, [], _, [], hW', trodAll_mk1 (shut_bool Try.underlying4 _), (trodAll_cons_mk (stay24 h0) (trodAll_cons_mk (shut_int Try.underlying22 w_n) trodAll_mk0)), rfl, hg.frame _, fun h => by cases h⟩

theorem over : Rows.scrollWritesRow.holds Try.pinned (OpenSpec.ofChange Rows.scrollWritesSpec) :=
  OpenClaim.holds_of_wide 3 Try.f3 rfl rfl rfl rfl rfl rfl rfl ⟨rfl, rfl, rfl, rfl, rfl⟩ rfl rfl rfl rfl rfl (by kernel_rfl) Try.func3 (by kernel_rfl)
    (of_decide_eq_true (by kernel_rfl)) (by unfold Func.isWrapper; first | (rw [if_pos (by decide +kernel)]; kernel_rfl) | (rw [if_neg (by decide +kernel)]; exact ⟨rfl, rfl⟩))
    (fun os started H enc _ => lifted os started H enc)

/-- THE STATEMENT -/
theorem proved : Rows.ScrollWritesSaid :=
  over
#print axioms proved
end Go.Proofs.Ytleggfpcgdpoaaa.scrollWrites
