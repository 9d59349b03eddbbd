/-
  ScrollTells: at every input the law returns true and leaves its arguments as they were. No condition.
-/
import Derived.Test.YtleggfpcgdpoaaaI
import Derived.Test.YtleggfpcgdpoaaaQ
import Derived.Test.YtleggfpcgdpoaaaF
import Derived.OpenShut
import Derived.BigQuiet
import Derived.Deep.DeepCutAuto
namespace Go.Proofs.Ytleggfpcgdpoaaa.scrollTells
open Go.Proofs.Ytleggfpcgdpoaaa
open Go.ChangeShapes Go.WideShapes Go.ChangeAt Go.RowKit
set_option linter.unusedVariables false
theorem fld4 (a b c d e : Value) (w : World) : (Instr.field 41 (.agg #[a, b, c, d, e]) 4).run Try.prog w = .ok e w := by kernel_rfl

set_option maxRecDepth 100000 in
set_option maxHeartbeats 8000000 in
theorem walk (v : Int) (t : Int) (x : Int) (b : Bool) (w_v : (Lit.int .u16 v).wf = true) (w_t : (Lit.int .u16 t).wf = true) (w_x : (Lit.int .u8 x).wf = true) (m : Int) (w_m : (Lit.int .u8 m).wf = true) (k : Int) (w_k : (Lit.int .u8 k).wf = true) (w : World) :
    Calls Try.prog 6 #[.agg #[.int .u16 v, .int .u16 t, .int .u8 x, .bool b], .int .u8 m, .int .u8 k] w fun r w' => r = .returned (.bool true) ∧ Below w.heap.size w w' := by
  have jf := fld4
  obtain ⟨v0, v1⟩ := bounds_u16 w_v
  obtain ⟨t0, t1⟩ := bounds_u16 w_t
  obtain ⟨x0, x1⟩ := bounds_u8 w_x
  obtain ⟨m0, m1⟩ := bounds_u8 w_m
  obtain ⟨k0, k1⟩ := bounds_u8 w_k
  clear w_v w_t w_x w_m w_k
  obtain ⟨K, hK⟩ : ∃ K : Nat, m % 10 = K := ⟨(m % 10).toNat, by omega⟩
  have hK10 : K < 10 := by omega
  have hKm : m.tmod 10 = K := by rw [Int.tmod_eq_emod_of_nonneg m0]; exact hK
  clear hK
  by_cases hok : v ≤ 32767 ∧ t ≤ 32767 ∧ x ≤ 7
  · obtain ⟨v2, t2, x2⟩ := hok
    obtain ⟨a, c, h, l, f, hv, s⟩ := apart v v0 v2
    obtain ⟨a', c', h', l', f', ht, s'⟩ := apart t t0 t2
    have Hv := Lib.hid hv
    have Ht := Lib.hid ht
    clear hv ht
    have hrow : IntKind.i64.wrap (v / 4096) = v / 4096 := IntWalk.i64_in _ (by omega)
    go_enter Try.func6, Try.ntmps6
    go_wp2_with fail
    refine (do_any K v t x k b _ hK10 v0 v2 t0 t2 x2 k0 k1).mono ?_
    rintro e w1 ⟨rfl, z1⟩
    have hS := Lib.hid (old_in (heap_alloc_new w (.cells #[.int .u16 v, .int .u16 t, .int .u8 x, .bool b] 24)) z1)
    have hG := Lib.hid (below_new (Below.refl _ _) (Nat.le_refl _) z1)
    clear z1
    have kS := cells_of (old_new hS.out (.cells #[.int .u16 (dV K v t k b), .int .u16 (dT K t k b), .int .u8 (dX K x k b), .bool (dB K b)] 24 (0, 0)))
    go_wp2_with fail
    refine (tint_ok v t x b _ v0 v2 t2 x2).mono ?_
    rintro e w2 ⟨rfl, z⟩
    clear kS
    replace hS := Lib.hid (old_in (old_new hS.out _) z)
    have hN := Lib.hid (new_at z rfl)
    replace hG := Lib.hid (below_new hG.out hG.out.size z)
    clear z
    go_wp2_with fail
    refine wp_region_below (by kernel_rfl) (by kernel_rfl) ?_
    refine quiet_yes ?_ ?_ (fun y hx => ?_) ?_
    rotate_left
    · rfl
    · have ks := cells_of (old_in hS.out hx)
      have kn := cells_of (old_in hN.out hx)
      go_simp
      first | done | (with_reducible rfl) | rfl
    simp only [Act.put, List.setIfInBounds_toArray, List.set_cons_zero, List.set_cons_succ]
    refine quiet_yes ?_ ?_ (fun y hx => ?_) ?_
    rotate_left
    · rfl
    · have ks := cells_of (old_in hS.out hx)
      have kn := cells_of (old_in hN.out hx)
      go_simp
      (have q := below_in hx (check_ok v t x b y v2 t2 x2); exact q)
    simp only [Act.put, List.setIfInBounds_toArray, List.set_cons_zero, List.set_cons_succ]
    refine quiet_yes ?_ ?_ (fun y hx => ?_) ?_
    rotate_left
    · rfl
    · have ks := cells_of (old_in hS.out hx)
      have kn := cells_of (old_in hN.out hx)
      go_simp
      first | done | (with_reducible rfl) | rfl
    simp only [Act.put, List.setIfInBounds_toArray, List.set_cons_zero, List.set_cons_succ]
    refine quiet_yes ?_ ?_ (fun y hx => ?_) ?_
    rotate_left
    · rfl
    · have ks := cells_of (old_in hS.out hx)
      have kn := cells_of (old_in hN.out hx)
      go_simp
      first | done | (with_reducible rfl) | rfl
    simp only [Act.put, List.setIfInBounds_toArray, List.set_cons_zero, List.set_cons_succ]
    refine quiet_yes ?_ ?_ (fun y hx => ?_) ?_
    rotate_left
    · rfl
    · have ks := cells_of (old_in hS.out hx)
      have kn := cells_of (old_in hN.out hx)
      go_simp
      (have q := below_in hx (may_ok v t x b y v2 t2 x2); exact q)
    simp only [Act.put, List.setIfInBounds_toArray, List.set_cons_zero, List.set_cons_succ]
    refine quiet_yes ?_ ?_ (fun y hx => ?_) ?_
    rotate_left
    · rfl
    · have ks := cells_of (old_in hS.out hx)
      have kn := cells_of (old_in hN.out hx)
      go_simp
      first | done | (with_reducible rfl) | rfl
    simp only [Act.put, List.setIfInBounds_toArray, List.set_cons_zero, List.set_cons_succ]
    refine wpQuiet_nil ?_
    intro y hy
    replace hS := Lib.hid (old_in hS.out hy)
    replace hN := Lib.hid (old_in hN.out hy)
    replace hG := Lib.hid (below_call hG.out hy)
    clear hy
    have ks := cells_of hS.out
    go_wp2_with fail
    refine (may_ok v t x b _ v2 t2 x2).mono ?_
    rintro e w3 ⟨rfl, z⟩
    replace hS := Lib.hid (old_in hS.out z)
    replace hN := Lib.hid (old_in hN.out z)
    replace hG := Lib.hid (below_call hG.out z)
    clear z ks
    have ks := cells_of hS.out
    go_wp2_with fail
    refine (rtint_any v t x b _ v0 v2).mono ?_
    rintro e w4 ⟨rfl, z⟩
    replace hS := Lib.hid (old_in hS.out z)
    replace hN := Lib.hid (old_in hN.out z)
    replace hG := Lib.hid (below_call hG.out z)
    clear z ks
    go_wp2_with fail
    refine wp_region_below (by kernel_rfl) (by kernel_rfl) ?_
    refine quiet_yes ?_ ?_ (fun y hx => ?_) ?_
    rotate_left
    · rfl
    · have ks := cells_of (old_in hS.out hx)
      have kn := cells_of (old_in hN.out hx)
      go_simp
      first | done | (with_reducible rfl) | rfl
    simp only [Act.put, List.setIfInBounds_toArray, List.set_cons_zero, List.set_cons_succ]
    refine quiet_yes ?_ ?_ (fun y hx => ?_) ?_
    rotate_left
    · rfl
    · have ks := cells_of (old_in hS.out hx)
      have kn := cells_of (old_in hN.out hx)
      go_simp
      first | done | (with_reducible rfl) | rfl
    simp only [Act.put, List.setIfInBounds_toArray, List.set_cons_zero, List.set_cons_succ]
    refine quiet_yes ?_ ?_ (fun y hx => ?_) ?_
    rotate_left
    · rfl
    · have ks := cells_of (old_in hS.out hx)
      have kn := cells_of (old_in hN.out hx)
      go_simp
      first | done | (with_reducible rfl) | rfl
    simp only [Act.put, List.setIfInBounds_toArray, List.set_cons_zero, List.set_cons_succ]
    refine quiet_yes ?_ ?_ (fun y hx => ?_) ?_
    rotate_left
    · rfl
    · have ks := cells_of (old_in hS.out hx)
      have kn := cells_of (old_in hN.out hx)
      go_simp
      first | done | (with_reducible rfl) | rfl
    simp only [Act.put, List.setIfInBounds_toArray, List.set_cons_zero, List.set_cons_succ]
    refine quiet_yes ?_ ?_ (fun y hx => ?_) ?_
    rotate_left
    · rfl
    · have ks := cells_of (old_in hS.out hx)
      have kn := cells_of (old_in hN.out hx)
      go_simp
      (have q := below_in hx (rdo_any K (K : Int) rfl a c h l f a' c' h' l' f' v t x k (dV K v t k b) (dT K t k b) (dX K x k b) b (dB K b) y hK10 s s' Hv.out.symm Ht.out.symm x0 x2 k0 k1 ⟨rfl, rfl, rfl, rfl⟩); exact q)
    simp only [Act.put, List.setIfInBounds_toArray, List.set_cons_zero, List.set_cons_succ]
    refine quiet_yes ?_ ?_ (fun y hx => ?_) ?_
    rotate_left
    · rfl
    · have ks := cells_of (old_in hS.out hx)
      have kn := cells_of (old_in hN.out hx)
      go_simp
      first | done | (with_reducible rfl) | rfl
    simp only [Act.put, List.setIfInBounds_toArray, List.set_cons_zero, List.set_cons_succ]
    refine quiet_yes ?_ ?_ (fun y hx => ?_) ?_
    rotate_left
    · rfl
    · have ks := cells_of (old_in hS.out hx)
      have kn := cells_of (old_in hN.out hx)
      go_simp
      first | done | (with_reducible rfl) | rfl
    simp only [Act.put, List.setIfInBounds_toArray, List.set_cons_zero, List.set_cons_succ]
    refine quiet_yes ?_ ?_ (fun y hx => ?_) ?_
    rotate_left
    · rfl
    · have ks := cells_of (old_in hS.out hx)
      have kn := cells_of (old_in hN.out hx)
      go_simp
      first | done | (with_reducible rfl) | rfl
    simp only [Act.put, List.setIfInBounds_toArray, List.set_cons_zero, List.set_cons_succ]
    refine quiet_yes ?_ ?_ (fun y hx => ?_) ?_
    rotate_left
    · rfl
    · have ks := cells_of (old_in hS.out hx)
      have kn := cells_of (old_in hN.out hx)
      go_simp
      first | done | (with_reducible rfl) | rfl
    simp only [Act.put, List.setIfInBounds_toArray, List.set_cons_zero, List.set_cons_succ]
    refine quiet_yes ?_ ?_ (fun y hx => ?_) ?_
    rotate_left
    · rfl
    · have ks := cells_of (old_in hS.out hx)
      have kn := cells_of (old_in hN.out hx)
      go_simp
      first | done | (with_reducible rfl) | rfl
    simp only [Act.put, List.setIfInBounds_toArray, List.set_cons_zero, List.set_cons_succ]
    refine quiet_yes ?_ ?_ (fun y hx => ?_) ?_
    rotate_left
    · rfl
    · have ks := cells_of (old_in hS.out hx)
      have kn := cells_of (old_in hN.out hx)
      go_simp
      first | done | (with_reducible rfl) | rfl
    simp only [Act.put, List.setIfInBounds_toArray, List.set_cons_zero, List.set_cons_succ]
    refine quiet_yes ?_ ?_ (fun y hx => ?_) ?_
    rotate_left
    · rfl
    · have ks := cells_of (old_in hS.out hx)
      have kn := cells_of (old_in hN.out hx)
      go_simp
      first | done | (with_reducible rfl) | rfl
    simp only [Act.put, List.setIfInBounds_toArray, List.set_cons_zero, List.set_cons_succ]
    refine quiet_yes ?_ ?_ (fun y hx => ?_) ?_
    rotate_left
    · rfl
    · have ks := cells_of (old_in hS.out hx)
      have kn := cells_of (old_in hN.out hx)
      go_simp
      (have q := below_in hx (tile_ok v t x b y v0 v2 t2 x2); exact q)
    simp only [Act.put, List.setIfInBounds_toArray, List.set_cons_zero, List.set_cons_succ]
    refine quiet_yes ?_ ?_ (fun y hx => ?_) ?_
    rotate_left
    · rfl
    · have ks := cells_of (old_in hS.out hx)
      have kn := cells_of (old_in hN.out hx)
      go_simp
      first | done | (with_reducible rfl) | rfl
    simp only [Act.put, List.setIfInBounds_toArray, List.set_cons_zero, List.set_cons_succ]
    refine quiet_yes ?_ ?_ (fun y hx => ?_) ?_
    rotate_left
    · rfl
    · have ks := cells_of (old_in hS.out hx)
      have kn := cells_of (old_in hN.out hx)
      go_simp
      (have q := below_in hx (rtile_any v t x b y v0 v2); exact q)
    simp only [Act.put, List.setIfInBounds_toArray, List.set_cons_zero, List.set_cons_succ]
    refine quiet_yes ?_ ?_ (fun y hx => ?_) ?_
    rotate_left
    · rfl
    · have ks := cells_of (old_in hS.out hx)
      have kn := cells_of (old_in hN.out hx)
      go_simp
      first | done | (with_reducible rfl) | rfl
    simp only [Act.put, List.setIfInBounds_toArray, List.set_cons_zero, List.set_cons_succ]
    refine quiet_yes ?_ ?_ (fun y hx => ?_) ?_
    rotate_left
    · rfl
    · have ks := cells_of (old_in hS.out hx)
      have kn := cells_of (old_in hN.out hx)
      go_simp
      first | done | (with_reducible rfl) | rfl
    simp only [Act.put, List.setIfInBounds_toArray, List.set_cons_zero, List.set_cons_succ]
    refine quiet_yes ?_ ?_ (fun y hx => ?_) ?_
    rotate_left
    · rfl
    · have ks := cells_of (old_in hS.out hx)
      have kn := cells_of (old_in hN.out hx)
      go_simp
      first | done | (with_reducible rfl) | rfl
    simp only [Act.put, List.setIfInBounds_toArray, List.set_cons_zero, List.set_cons_succ]
    refine quiet_yes ?_ ?_ (fun y hx => ?_) ?_
    rotate_left
    · rfl
    · have ks := cells_of (old_in hS.out hx)
      have kn := cells_of (old_in hN.out hx)
      go_simp
      first | done | (with_reducible rfl) | rfl
    simp only [Act.put, List.setIfInBounds_toArray, List.set_cons_zero, List.set_cons_succ]
    refine quiet_yes ?_ ?_ (fun y hx => ?_) ?_
    rotate_left
    · rfl
    · have ks := cells_of (old_in hS.out hx)
      have kn := cells_of (old_in hN.out hx)
      go_simp
      first | done | (with_reducible rfl) | rfl
    simp only [Act.put, List.setIfInBounds_toArray, List.set_cons_zero, List.set_cons_succ]
    refine quiet_yes ?_ ?_ (fun y hx => ?_) ?_
    rotate_left
    · rfl
    · have ks := cells_of (old_in hS.out hx)
      have kn := cells_of (old_in hN.out hx)
      go_simp
      first | done | (with_reducible rfl) | rfl
    simp only [Act.put, List.setIfInBounds_toArray, List.set_cons_zero, List.set_cons_succ]
    refine quiet_yes ?_ ?_ (fun y hx => ?_) ?_
    rotate_left
    · rfl
    · have ks := cells_of (old_in hS.out hx)
      have kn := cells_of (old_in hN.out hx)
      go_simp
      first | done | (with_reducible rfl) | rfl
    simp only [Act.put, List.setIfInBounds_toArray, List.set_cons_zero, List.set_cons_succ]
    refine quiet_yes ?_ ?_ (fun y hx => ?_) ?_
    rotate_left
    · rfl
    · have ks := cells_of (old_in hS.out hx)
      have kn := cells_of (old_in hN.out hx)
      go_simp
      first | done | (with_reducible rfl) | rfl
    simp only [Act.put, List.setIfInBounds_toArray, List.set_cons_zero, List.set_cons_succ]
    refine quiet_yes ?_ ?_ (fun y hx => ?_) ?_
    rotate_left
    · rfl
    · have ks := cells_of (old_in hS.out hx)
      have kn := cells_of (old_in hN.out hx)
      go_simp
      first | done | (with_reducible rfl) | rfl
    simp only [Act.put, List.setIfInBounds_toArray, List.set_cons_zero, List.set_cons_succ]
    refine quiet_yes ?_ ?_ (fun y hx => ?_) ?_
    rotate_left
    · rfl
    · have ks := cells_of (old_in hS.out hx)
      have kn := cells_of (old_in hN.out hx)
      go_simp
      first | done | (with_reducible rfl) | rfl
    simp only [Act.put, List.setIfInBounds_toArray, List.set_cons_zero, List.set_cons_succ]
    refine quiet_yes ?_ ?_ (fun y hx => ?_) ?_
    rotate_left
    · rfl
    · have ks := cells_of (old_in hS.out hx)
      have kn := cells_of (old_in hN.out hx)
      go_simp
      first | done | (with_reducible rfl) | rfl
    simp only [Act.put, List.setIfInBounds_toArray, List.set_cons_zero, List.set_cons_succ]
    refine quiet_yes ?_ ?_ (fun y hx => ?_) ?_
    rotate_left
    · rfl
    · have ks := cells_of (old_in hS.out hx)
      have kn := cells_of (old_in hN.out hx)
      go_simp
      first | done | (with_reducible rfl) | rfl
    simp only [Act.put, List.setIfInBounds_toArray, List.set_cons_zero, List.set_cons_succ]
    refine quiet_yes ?_ ?_ (fun y hx => ?_) ?_
    rotate_left
    · rfl
    · have ks := cells_of (old_in hS.out hx)
      have kn := cells_of (old_in hN.out hx)
      go_simp
      first | done | (with_reducible rfl) | rfl
    simp only [Act.put, List.setIfInBounds_toArray, List.set_cons_zero, List.set_cons_succ]
    refine quiet_yes ?_ ?_ (fun y hx => ?_) ?_
    rotate_left
    · rfl
    · have ks := cells_of (old_in hS.out hx)
      have kn := cells_of (old_in hN.out hx)
      go_simp
      first | done | (with_reducible rfl) | rfl
    simp only [Act.put, List.setIfInBounds_toArray, List.set_cons_zero, List.set_cons_succ]
    refine quiet_yes ?_ ?_ (fun y hx => ?_) ?_
    rotate_left
    · rfl
    · have ks := cells_of (old_in hS.out hx)
      have kn := cells_of (old_in hN.out hx)
      go_simp
      (have q := below_in hx (row_ok v t x b y v0 v2 t2 x2); exact q)
    simp only [Act.put, List.setIfInBounds_toArray, List.set_cons_zero, List.set_cons_succ]
    refine quiet_yes ?_ ?_ (fun y hx => ?_) ?_
    rotate_left
    · rfl
    · have ks := cells_of (old_in hS.out hx)
      have kn := cells_of (old_in hN.out hx)
      go_simp
      first | done | (with_reducible rfl) | rfl
    simp only [Act.put, List.setIfInBounds_toArray, List.set_cons_zero, List.set_cons_succ]
    refine quiet_yes ?_ ?_ (fun y hx => ?_) ?_
    rotate_left
    · rfl
    · have ks := cells_of (old_in hS.out hx)
      have kn := cells_of (old_in hN.out hx)
      go_simp
      first | done | (with_reducible rfl) | rfl
    simp only [Act.put, List.setIfInBounds_toArray, List.set_cons_zero, List.set_cons_succ]
    refine quiet_yes ?_ ?_ (fun y hx => ?_) ?_
    rotate_left
    · rfl
    · have ks := cells_of (old_in hS.out hx)
      have kn := cells_of (old_in hN.out hx)
      go_simp
      first | done | (with_reducible rfl) | rfl
    simp only [Act.put, List.setIfInBounds_toArray, List.set_cons_zero, List.set_cons_succ]
    refine quiet_yes ?_ ?_ (fun y hx => ?_) ?_
    rotate_left
    · rfl
    · have ks := cells_of (old_in hS.out hx)
      have kn := cells_of (old_in hN.out hx)
      go_simp
      (have q := below_in hx (apart_any v y v0 v2); exact q)
    simp only [Act.put, List.setIfInBounds_toArray, List.set_cons_zero, List.set_cons_succ]
    refine quiet_yes ?_ ?_ (fun y hx => ?_) ?_
    rotate_left
    · rfl
    · have ks := cells_of (old_in hS.out hx)
      have kn := cells_of (old_in hN.out hx)
      go_simp
      first | done | (with_reducible rfl) | rfl
    simp only [Act.put, List.setIfInBounds_toArray, List.set_cons_zero, List.set_cons_succ]
    refine quiet_yes ?_ ?_ (fun y hx => ?_) ?_
    rotate_left
    · rfl
    · have ks := cells_of (old_in hS.out hx)
      have kn := cells_of (old_in hN.out hx)
      go_simp
      first | done | (with_reducible rfl) | rfl
    simp only [Act.put, List.setIfInBounds_toArray, List.set_cons_zero, List.set_cons_succ]
    refine quiet_yes ?_ ?_ (fun y hx => ?_) ?_
    rotate_left
    · rfl
    · have ks := cells_of (old_in hS.out hx)
      have kn := cells_of (old_in hN.out hx)
      go_simp
      first | done | (with_reducible rfl) | rfl
    simp only [Act.put, List.setIfInBounds_toArray, List.set_cons_zero, List.set_cons_succ]
    refine quiet_yes ?_ ?_ (fun y hx => ?_) ?_
    rotate_left
    · rfl
    · have ks := cells_of (old_in hS.out hx)
      have kn := cells_of (old_in hN.out hx)
      go_simp
      first | done | (with_reducible rfl) | rfl
    simp only [Act.put, List.setIfInBounds_toArray, List.set_cons_zero, List.set_cons_succ]
    refine quiet_yes ?_ ?_ (fun y hx => ?_) ?_
    rotate_left
    · rfl
    · have ks := cells_of (old_in hS.out hx)
      have kn := cells_of (old_in hN.out hx)
      go_simp
      (have q := below_in hx (awake_any y); exact q)
    simp only [Act.put, List.setIfInBounds_toArray, List.set_cons_zero, List.set_cons_succ]
    refine quiet_yes ?_ ?_ (fun y hx => ?_) ?_
    rotate_left
    · rfl
    · have ks := cells_of (old_in hS.out hx)
      have kn := cells_of (old_in hN.out hx)
      go_simp
      first | done | (with_reducible rfl) | rfl
    simp only [Act.put, List.setIfInBounds_toArray, List.set_cons_zero, List.set_cons_succ]
    refine quiet_yes ?_ ?_ (fun y hx => ?_) ?_
    rotate_left
    · rfl
    · have ks := cells_of (old_in hS.out hx)
      have kn := cells_of (old_in hN.out hx)
      go_simp
      first | done | (with_reducible rfl) | rfl
    simp only [Act.put, List.setIfInBounds_toArray, List.set_cons_zero, List.set_cons_succ]
    refine wpQuiet_nil ?_
    intro y hy
    replace hG := Lib.hid (below_call hG.out hy)
    clear hy
    go_wp2
    go_ret
    exact ⟨rfl, hG.out⟩
  · go_enter Try.func6, Try.ntmps6
    go_wp2_with fail
    refine (do_bad K v t x k b _ hK10 hok).mono ?_
    rintro e w1 ⟨rfl, z1⟩
    have hS := Lib.hid (old_in (heap_alloc_new w (.cells #[.int .u16 v, .int .u16 t, .int .u8 x, .bool b] 24)) z1)
    have hG := Lib.hid (below_new (Below.refl _ _) (Nat.le_refl _) z1)
    clear z1
    have kS := cells_of (old_new hS.out (.cells #[.int .u16 v, .int .u16 t, .int .u8 x, .bool b] 24 (0, 0)))
    go_wp2_with fail
    refine (tint_bad v t x b _ hok).mono ?_
    rintro e w2 ⟨rfl, z⟩
    clear kS
    replace hS := Lib.hid (old_in (old_new hS.out _) z)
    have hN := Lib.hid (new_at z rfl)
    replace hG := Lib.hid (below_new hG.out hG.out.size z)
    clear z
    go_wp2_with fail
    refine wp_region_below (by kernel_rfl) (by kernel_rfl) ?_
    refine quiet_yes ?_ ?_ (fun y hx => ?_) ?_
    rotate_left
    · rfl
    · have ks := cells_of (old_in hS.out hx)
      have kn := cells_of (old_in hN.out hx)
      go_simp
      first | done | (with_reducible rfl) | rfl
    simp only [Act.put, List.setIfInBounds_toArray, List.set_cons_zero, List.set_cons_succ]
    refine quiet_yes ?_ ?_ (fun y hx => ?_) ?_
    rotate_left
    · rfl
    · have ks := cells_of (old_in hS.out hx)
      have kn := cells_of (old_in hN.out hx)
      go_simp
      (have q := below_in hx (check_bad v t x b y hok); exact q)
    simp only [Act.put, List.setIfInBounds_toArray, List.set_cons_zero, List.set_cons_succ]
    refine quiet_yes ?_ ?_ (fun y hx => ?_) ?_
    rotate_left
    · rfl
    · have ks := cells_of (old_in hS.out hx)
      have kn := cells_of (old_in hN.out hx)
      go_simp
      first | done | (with_reducible rfl) | rfl
    simp only [Act.put, List.setIfInBounds_toArray, List.set_cons_zero, List.set_cons_succ]
    refine quiet_yes ?_ ?_ (fun y hx => ?_) ?_
    rotate_left
    · rfl
    · have ks := cells_of (old_in hS.out hx)
      have kn := cells_of (old_in hN.out hx)
      go_simp
      first | done | (with_reducible rfl) | rfl
    simp only [Act.put, List.setIfInBounds_toArray, List.set_cons_zero, List.set_cons_succ]
    refine quiet_yes ?_ ?_ (fun y hx => ?_) ?_
    rotate_left
    · rfl
    · have ks := cells_of (old_in hS.out hx)
      have kn := cells_of (old_in hN.out hx)
      go_simp
      (have q := below_in hx (may_bad v t x b y hok); exact q)
    simp only [Act.put, List.setIfInBounds_toArray, List.set_cons_zero, List.set_cons_succ]
    refine quiet_yes ?_ ?_ (fun y hx => ?_) ?_
    rotate_left
    · rfl
    · have ks := cells_of (old_in hS.out hx)
      have kn := cells_of (old_in hN.out hx)
      go_simp
      first | done | (with_reducible rfl) | rfl
    simp only [Act.put, List.setIfInBounds_toArray, List.set_cons_zero, List.set_cons_succ]
    refine wpQuiet_nil ?_
    intro y hy
    replace hS := Lib.hid (old_in hS.out hy)
    replace hN := Lib.hid (old_in hN.out hy)
    replace hG := Lib.hid (below_call hG.out hy)
    clear hy
    have ks := cells_of hS.out
    have kn := cells_of hN.out
    go_wp2_with fail
    refine (may_bad v t x b _ hok).mono ?_
    rintro e w3 ⟨rfl, z⟩
    replace hS := Lib.hid (old_in hS.out z)
    replace hN := Lib.hid (old_in hN.out z)
    replace hG := Lib.hid (below_call hG.out z)
    clear z ks kn
    have ks := cells_of hS.out
    have kn := cells_of hN.out
    go_wp2_with fail
    refine (tile_bad v t x b _ hok).mono ?_
    rintro e w4 ⟨rfl, z⟩
    replace hS := Lib.hid (old_in hS.out z)
    replace hN := Lib.hid (old_in hN.out z)
    replace hG := Lib.hid (below_call hG.out z)
    clear z ks kn
    have ks := cells_of hS.out
    have kn := cells_of hN.out
    go_wp2_with fail
    refine (row_bad v t x b _ hok).mono ?_
    rintro e w5 ⟨rfl, z⟩
    replace hS := Lib.hid (old_in hS.out z)
    replace hN := Lib.hid (old_in hN.out z)
    replace hG := Lib.hid (below_call hG.out z)
    clear z ks kn
    have ks := cells_of hS.out
    have kn := cells_of hN.out
    go_wp2_with fail
    refine (awake_any _).mono ?_
    rintro e w6 ⟨rfl, z⟩
    replace hS := Lib.hid (old_in hS.out z)
    replace hN := Lib.hid (old_in hN.out z)
    replace hG := Lib.hid (below_call hG.out z)
    clear z ks kn
    go_wp2
    go_ret
    exact ⟨rfl, hG.out⟩

set_option maxRecDepth 100000 in
theorem lifted (os : Os) (started : os.Started) (H : Type) (enc : TypeId × Value → H) :
    ReturnsInHanded {} Try.checked os 6 .any (Rows.scrollTellsSpec.pre6 enc Try.prog Try.f6 Rows.scrollTellsRow.domain false) (Rows.scrollTellsSpec.post enc Try.prog Try.f6 false true false false) := by
  refine returnsInHanded_of_change (C := Try.checked) own started (by kernel_rfl) Try.func6
    (ChangeSpec.witness6 (enc := enc) (C := Try.checked) false ⟨#[], #[.agg #[.int .u16 0, .int .u16 0, .int .u8 0, .bool false], .int .u8 0, .int .u8 0], []⟩ 8 (by kernel_rfl) (by kernel_rfl) (by kernel_rfl) (by kernel_rfl)) ?_
  intro W base args ds gs before hval0 hW hcnd _
  have hval : ∀ (j : Nat) t v, Try.f6.params[j]? = some t → args[j]? = some v → Value.okWide Try.prog W .any base t v := hval0
  have hW' := hW
  obtain ⟨p, q, hA0, hV, rfl, hfz, hnd⟩ := hW
  have hA : DataW.TrodAll enc Try.prog W 0 (fun _ => true) true Try.f6.params.toList args.toList ds p := hA0
  rw [Try.params6] at hA hval
  obtain ⟨v0, vs0, d0, ds0, p0, q0, hargs, rfl, rfl, h0, r0⟩ := trodAll_cons hA
  obtain ⟨v1, vs1, d1, ds1, p1, q1, rfl, rfl, rfl, h1, r1⟩ := trodAll_cons r0
  obtain ⟨v2, vs2, d2, ds2, p2, q2, rfl, rfl, rfl, h2, r2⟩ := trodAll_cons r1
  obtain ⟨rfl, rfl, rfl⟩ := trodAll_nil r2
  obtain rfl : args = #[v0, v1, v2] := by cases args; simp_all
  obtain ⟨rfl, rfl⟩ := trodVars_none hV
  obtain ⟨v, t, x, b, rfl, rfl, w_v, w_t, w_x⟩ := open_scroll (hval 0 24 v0 rfl rfl) h0
  obtain ⟨m, rfl, rfl, rfl, w_m⟩ := open_int Try.underlying5 (hval 1 5 v1 rfl rfl) h1
  obtain ⟨k, rfl, rfl, rfl, w_k⟩ := open_int Try.underlying5 (hval 2 5 v2 rfl rfl) h2
  clear hA0 hval0
  simp only [List.append_nil] at hW'
  refine (walk v t x b w_v w_t w_x m w_m k w_k W).mono fun e W' ⟨he, hg⟩ => ?_
  subst he
  exact ⟨_, rfl, _, _, _, [], _, [], hW', trodAll_mk1 (shut_bool Try.underlying4 _), (trodAll_cons_mk (stay24 h0) (trodAll_cons_mk (shut_int Try.underlying5 w_m) (trodAll_cons_mk (shut_int Try.underlying5 w_k) trodAll_mk0))), rfl, hg.frame _, fun h => by cases h⟩

theorem over : Rows.scrollTellsRow.holds Try.pinned (OpenSpec.ofChange Rows.scrollTellsSpec) :=
  OpenClaim.holds_of_wide 6 Try.f6 rfl rfl rfl rfl rfl rfl rfl ⟨rfl, rfl, rfl, rfl, rfl⟩ rfl rfl rfl rfl rfl (by kernel_rfl) Try.func6 (by kernel_rfl)
    (of_decide_eq_true (by kernel_rfl)) (by unfold Func.isWrapper; first | (rw [if_pos (by decide +kernel)]; kernel_rfl) | (rw [if_neg (by decide +kernel)]; exact ⟨rfl, rfl⟩))
    (fun os started H enc _ => lifted os started H enc)

/-- THE STATEMENT -/
theorem proved : Rows.ScrollTellsSaid :=
  over
#print axioms proved
end Go.Proofs.Ytleggfpcgdpoaaa.scrollTells
