/-
  TileTells: at every input the law returns true and leaves its arguments as they were. No condition.
-/
import Derived.Test.YtnmobjjinidmiaaV
import Derived.Test.YtnmobjjinidmiaaQu
import Derived.Test.YtnmobjjinidmiaaF
import Derived.Test.YtnmobjjinidmiaaR
import Derived.OpenShut
import Derived.BigQuiet
namespace Go.Proofs.Ytnmobjjinidmiaa.tileTells
open Go.Proofs.Ytnmobjjinidmiaa
open Go.ChangeShapes Go.WideShapes Go.ChangeAt Go.RowKit
set_option linter.unusedVariables false
theorem old_new {x : World} {g : Nat} {o : Obj} (h : x.heap[g]? = some o) (p : Obj) : (x.alloc p).heap[g]? = some o := (heap_alloc_old _ _ (lt_of_row h)).trans h

set_option maxRecDepth 100000 in
set_option maxHeartbeats 8000000 in
theorem walk (a : Int) (b : Int) (c : Int) (d : Int) (e : Int) (lv : Int) (ls : Bool) (hv : Int) (hs : Bool) (ti : Int) (s : Bool) (u : Int) (w_a : (Lit.int .u16 a).wf = true) (w_b : (Lit.int .u16 b).wf = true) (w_c : (Lit.int .u16 c).wf = true) (w_d : (Lit.int .u16 d).wf = true) (w_e : (Lit.int .u16 e).wf = true) (w_lv : (Lit.int .u8 lv).wf = true) (w_hv : (Lit.int .u8 hv).wf = true) (w_ti : (Lit.int .u8 ti).wf = true) (w_u : (Lit.int .u8 u).wf = true) (a2 : Int) (b2 : Int) (c2 : Int) (d2 : Int) (e2 : Int) (w_a2 : (Lit.int .u16 a2).wf = true) (w_b2 : (Lit.int .u16 b2).wf = true) (w_c2 : (Lit.int .u16 c2).wf = true) (w_d2 : (Lit.int .u16 d2).wf = true) (w_e2 : (Lit.int .u16 e2).wf = true) (w : World) :
    Calls Try.prog 8 #[.agg #[.int .u16 a, .int .u16 b, .int .u16 c, .int .u16 d, .int .u16 e, .int .u8 lv, .bool ls, .int .u8 hv, .bool hs, .int .u8 ti, .bool s, .int .u8 u], .agg #[.int .u16 a2, .int .u16 b2, .int .u16 c2, .int .u16 d2, .int .u16 e2]] w fun r w' => r = .returned (.bool true) ∧ Below w.heap.size w w' := by
  obtain ⟨a0, a1⟩ := bounds_u16 w_a
  obtain ⟨b0, b1⟩ := bounds_u16 w_b
  obtain ⟨c0, c1⟩ := bounds_u16 w_c
  obtain ⟨d0, d1⟩ := bounds_u16 w_d
  obtain ⟨e0, e1⟩ := bounds_u16 w_e
  obtain ⟨a20, a21⟩ := bounds_u16 w_a2
  obtain ⟨b20, b21⟩ := bounds_u16 w_b2
  obtain ⟨c20, c21⟩ := bounds_u16 w_c2
  obtain ⟨d20, d21⟩ := bounds_u16 w_d2
  obtain ⟨e20, e21⟩ := bounds_u16 w_e2
  obtain ⟨l0, l1⟩ := bounds_u8 w_lv
  obtain ⟨h0, h1⟩ := bounds_u8 w_hv
  obtain ⟨t0, t1⟩ := bounds_u8 w_ti
  obtain ⟨u0, u1⟩ := bounds_u8 w_u
  clear w_a w_b w_c w_d w_e w_u w_lv w_hv w_ti w_a2 w_b2 w_c2 w_d2 w_e2
  go_enter Try.func8, Try.ntmps8
  go_wp2_with fail
  refine (dot_any a b c d e u _ a0 a1 b0 b1 c0 c1 d0 d1 e0 e1 u0 u1).mono ?_
  rintro r w1 ⟨rfl, z1⟩
  have HT := Lib.hid (new_in z1)
  rw [World.size_alloc] at HT
  have HB := Lib.hid (old_in (heap_alloc2_old _ _ _) z1)
  have HG := Lib.hid (below_new ((Below.refl _ _).alloc (Nat.le_refl w.heap.size) _) (by rw [World.size_alloc]; exact Nat.le_succ _) z1)
  clear z1
  have kb := cells_of HB.out
  go_wp2_with fail
  refine (rdot_any a b c d e u _ a0 a1 b0 b1 c0 c1 d0 d1 e0 e1 u0 u1).mono ?_
  rintro r w2 ⟨rfl, z2⟩
  clear kb
  replace HB := Lib.hid (old_in HB.out z2)
  replace HT := Lib.hid (old_in HT.out z2)
  replace HG := Lib.hid (below_call HG.out z2)
  clear z2
  have kb := cells_of HB.out
  go_wp2_with fail
  generalize hW5 : World.alloc _ _ = W5
  have HX := Lib.hid (show W5.heap[w2.heap.size]? = some (.cells #[.int .u16 a, .int .u16 b, .int .u16 c, .int .u16 d, .int .u16 0] 24 (0, 0)) from by rw [← hW5]; exact heap_alloc_new _ _)
  replace HB := Lib.hid (hW5 ▸ old_new HB.out _)
  replace HT := Lib.hid (hW5 ▸ old_new HT.out _)
  replace HG := Lib.hid (show Below w.heap.size w W5 from by rw [← hW5]; exact HG.out.alloc HG.out.size _)
  clear hW5 kb
  refine wp_region_below (by kernel_rfl) (by kernel_rfl) ?_
  refine quiet_yes ?_ ?_ (fun x hx => ?_) ?_
  rotate_left
  · rfl
  · have kb := cells_of (old_in HB.out hx)
    have kt := cells_of (old_in HT.out hx)
    have kx := cells_of (old_in HX.out hx)
    go_simp
    first | done | (with_reducible rfl) | rfl
  simp only [Act.put, List.setIfInBounds_toArray, List.set_cons_zero, List.set_cons_succ]
  refine quiet_yes ?_ ?_ (fun x hx => ?_) ?_
  rotate_left
  · rfl
  · have kb := cells_of (old_in HB.out hx)
    have kt := cells_of (old_in HT.out hx)
    have kx := cells_of (old_in HX.out hx)
    go_simp
    first | done | (with_reducible rfl) | rfl
  simp only [Act.put, List.setIfInBounds_toArray, List.set_cons_zero, List.set_cons_succ]
  refine quiet_yes ?_ ?_ (fun x hx => ?_) ?_
  rotate_left
  · rfl
  · have kb := cells_of (old_in HB.out hx)
    have kt := cells_of (old_in HT.out hx)
    have kx := cells_of (old_in HX.out hx)
    go_simp
    first | done | (with_reducible rfl) | rfl
  simp only [Act.put, List.setIfInBounds_toArray, List.set_cons_zero, List.set_cons_succ]
  refine quiet_yes ?_ ?_ (fun x hx => ?_) ?_
  rotate_left
  · rfl
  · have kb := cells_of (old_in HB.out hx)
    have kt := cells_of (old_in HT.out hx)
    have kx := cells_of (old_in HX.out hx)
    go_simp
    first | done | (with_reducible rfl) | rfl
  simp only [Act.put, List.setIfInBounds_toArray, List.set_cons_zero, List.set_cons_succ]
  refine quiet_yes ?_ ?_ (fun x hx => ?_) ?_
  rotate_left
  · rfl
  · have kb := cells_of (old_in HB.out hx)
    have kt := cells_of (old_in HT.out hx)
    have kx := cells_of (old_in HX.out hx)
    go_simp
    first | done | (with_reducible rfl) | rfl
  simp only [Act.put, List.setIfInBounds_toArray, List.set_cons_zero, List.set_cons_succ]
  refine quiet_yes ?_ ?_ (fun x hx => ?_) ?_
  rotate_left
  · rfl
  · have kb := cells_of (old_in HB.out hx)
    have kt := cells_of (old_in HT.out hx)
    have kx := cells_of (old_in HX.out hx)
    go_simp
    first | done | (with_reducible rfl) | rfl
  simp only [Act.put, List.setIfInBounds_toArray, List.set_cons_zero, List.set_cons_succ]
  refine quiet_yes ?_ ?_ (fun x hx => ?_) ?_
  rotate_left
  · rfl
  · have kb := cells_of (old_in HB.out hx)
    have kt := cells_of (old_in HT.out hx)
    have kx := cells_of (old_in HX.out hx)
    go_simp
    first | done | (with_reducible rfl) | rfl
  simp only [Act.put, List.setIfInBounds_toArray, List.set_cons_zero, List.set_cons_succ]
  refine quiet_yes ?_ ?_ (fun x hx => ?_) ?_
  rotate_left
  · rfl
  · have kb := cells_of (old_in HB.out hx)
    have kt := cells_of (old_in HT.out hx)
    have kx := cells_of (old_in HX.out hx)
    go_simp
    first | done | (with_reducible rfl) | rfl
  simp only [Act.put, List.setIfInBounds_toArray, List.set_cons_zero, List.set_cons_succ]
  refine quiet_yes ?_ ?_ (fun x hx => ?_) ?_
  rotate_left
  · rfl
  · have kb := cells_of (old_in HB.out hx)
    have kt := cells_of (old_in HT.out hx)
    have kx := cells_of (old_in HX.out hx)
    go_simp
    first | done | (with_reducible rfl) | rfl
  simp only [Act.put, List.setIfInBounds_toArray, List.set_cons_zero, List.set_cons_succ]
  refine quiet_yes ?_ ?_ (fun x hx => ?_) ?_
  rotate_left
  · rfl
  · have kb := cells_of (old_in HB.out hx)
    have kt := cells_of (old_in HT.out hx)
    have kx := cells_of (old_in HX.out hx)
    go_simp
    first | done | (with_reducible rfl) | rfl
  simp only [Act.put, List.setIfInBounds_toArray, List.set_cons_zero, List.set_cons_succ]
  refine quiet_yes ?_ ?_ (fun x hx => ?_) ?_
  rotate_left
  · rfl
  · have kb := cells_of (old_in HB.out hx)
    have kt := cells_of (old_in HT.out hx)
    have kx := cells_of (old_in HX.out hx)
    go_simp
    (have q := below_in hx (load_any a b c d e lv hv ti s ls hs x a0 a1 b0 b1 c0 c1 d0 d1 e0 e1 l0 l1 h0 h1 t0 t1); exact q)
  simp only [Act.put, List.setIfInBounds_toArray, List.set_cons_zero, List.set_cons_succ]
  refine quiet_yes ?_ ?_ (fun x hx => ?_) ?_
  rotate_left
  · rfl
  · have kb := cells_of (old_in HB.out hx)
    have kt := cells_of (old_in HT.out hx)
    have kx := cells_of (old_in HX.out hx)
    go_simp
    first | done | (with_reducible rfl) | rfl
  simp only [Act.put, List.setIfInBounds_toArray, List.set_cons_zero, List.set_cons_succ]
  refine quiet_yes ?_ ?_ (fun x hx => ?_) ?_
  rotate_left
  · rfl
  · have kb := cells_of (old_in HB.out hx)
    have kt := cells_of (old_in HT.out hx)
    have kx := cells_of (old_in HX.out hx)
    go_simp
    first | done | (with_reducible rfl) | rfl
  simp only [Act.put, List.setIfInBounds_toArray, List.set_cons_zero, List.set_cons_succ]
  refine quiet_yes ?_ ?_ (fun x hx => ?_) ?_
  rotate_left
  · rfl
  · have kb := cells_of (old_in HB.out hx)
    have kt := cells_of (old_in HT.out hx)
    have kx := cells_of (old_in HX.out hx)
    go_simp
    first | done | (with_reducible rfl) | rfl
  simp only [Act.put, List.setIfInBounds_toArray, List.set_cons_zero, List.set_cons_succ]
  refine quiet_yes ?_ ?_ (fun x hx => ?_) ?_
  rotate_left
  · rfl
  · have kb := cells_of (old_in HB.out hx)
    have kt := cells_of (old_in HT.out hx)
    have kx := cells_of (old_in HX.out hx)
    go_simp
    first | done | (with_reducible rfl) | rfl
  simp only [Act.put, List.setIfInBounds_toArray, List.set_cons_zero, List.set_cons_succ]
  refine quiet_yes ?_ ?_ (fun x hx => ?_) ?_
  rotate_left
  · rfl
  · have kb := cells_of (old_in HB.out hx)
    have kt := cells_of (old_in HT.out hx)
    have kx := cells_of (old_in HX.out hx)
    go_simp
    first | done | (with_reducible rfl) | rfl
  simp only [Act.put, List.setIfInBounds_toArray, List.set_cons_zero, List.set_cons_succ]
  refine quiet_yes ?_ ?_ (fun x hx => ?_) ?_
  rotate_left
  · rfl
  · have kb := cells_of (old_in HB.out hx)
    have kt := cells_of (old_in HT.out hx)
    have kx := cells_of (old_in HX.out hx)
    go_simp
    first | done | (with_reducible rfl) | rfl
  simp only [Act.put, List.setIfInBounds_toArray, List.set_cons_zero, List.set_cons_succ]
  refine quiet_yes ?_ ?_ (fun x hx => ?_) ?_
  rotate_left
  · rfl
  · have kb := cells_of (old_in HB.out hx)
    have kt := cells_of (old_in HT.out hx)
    have kx := cells_of (old_in HX.out hx)
    go_simp
    first | done | (with_reducible rfl) | rfl
  simp only [Act.put, List.setIfInBounds_toArray, List.set_cons_zero, List.set_cons_succ]
  refine quiet_yes ?_ ?_ (fun x hx => ?_) ?_
  rotate_left
  · rfl
  · have kb := cells_of (old_in HB.out hx)
    have kt := cells_of (old_in HT.out hx)
    have kx := cells_of (old_in HX.out hx)
    go_simp
    first | done | (with_reducible rfl) | rfl
  simp only [Act.put, List.setIfInBounds_toArray, List.set_cons_zero, List.set_cons_succ]
  refine quiet_yes ?_ ?_ (fun x hx => ?_) ?_
  rotate_left
  · rfl
  · have kb := cells_of (old_in HB.out hx)
    have kt := cells_of (old_in HT.out hx)
    have kx := cells_of (old_in HX.out hx)
    go_simp
    first | done | (with_reducible rfl) | rfl
  simp only [Act.put, List.setIfInBounds_toArray, List.set_cons_zero, List.set_cons_succ]
  refine quiet_yes ?_ ?_ (fun x hx => ?_) ?_
  rotate_left
  · rfl
  · have kb := cells_of (old_in HB.out hx)
    have kt := cells_of (old_in HT.out hx)
    have kx := cells_of (old_in HX.out hx)
    go_simp
    first | done | (with_reducible rfl) | rfl
  simp only [Act.put, List.setIfInBounds_toArray, List.set_cons_zero, List.set_cons_succ]
  refine quiet_yes ?_ ?_ (fun x hx => ?_) ?_
  rotate_left
  · rfl
  · have kb := cells_of (old_in HB.out hx)
    have kt := cells_of (old_in HT.out hx)
    have kx := cells_of (old_in HX.out hx)
    go_simp
    (have q := below_in hx (rload_any a b c d e lv hv ti s ls hs x a0 a1 b0 b1 c0 c1 d0 d1 e0 e1 l0 l1 h0 h1 t0 t1); exact q)
  simp only [Act.put, List.setIfInBounds_toArray, List.set_cons_zero, List.set_cons_succ]
  refine quiet_yes ?_ ?_ (fun x hx => ?_) ?_
  rotate_left
  · rfl
  · have kb := cells_of (old_in HB.out hx)
    have kt := cells_of (old_in HT.out hx)
    have kx := cells_of (old_in HX.out hx)
    go_simp
    first | done | (with_reducible rfl) | rfl
  simp only [Act.put, List.setIfInBounds_toArray, List.set_cons_zero, List.set_cons_succ]
  refine quiet_yes ?_ ?_ (fun x hx => ?_) ?_
  rotate_left
  · rfl
  · have kb := cells_of (old_in HB.out hx)
    have kt := cells_of (old_in HT.out hx)
    have kx := cells_of (old_in HX.out hx)
    go_simp
    first | done | (with_reducible rfl) | rfl
  simp only [Act.put, List.setIfInBounds_toArray, List.set_cons_zero, List.set_cons_succ]
  refine quiet_yes ?_ ?_ (fun x hx => ?_) ?_
  rotate_left
  · rfl
  · have kb := cells_of (old_in HB.out hx)
    have kt := cells_of (old_in HT.out hx)
    have kx := cells_of (old_in HX.out hx)
    go_simp
    first | done | (with_reducible rfl) | rfl
  simp only [Act.put, List.setIfInBounds_toArray, List.set_cons_zero, List.set_cons_succ]
  refine quiet_yes ?_ ?_ (fun x hx => ?_) ?_
  rotate_left
  · rfl
  · have kb := cells_of (old_in HB.out hx)
    have kt := cells_of (old_in HT.out hx)
    have kx := cells_of (old_in HX.out hx)
    go_simp
    first | done | (with_reducible rfl) | rfl
  simp only [Act.put, List.setIfInBounds_toArray, List.set_cons_zero, List.set_cons_succ]
  refine quiet_yes ?_ ?_ (fun x hx => ?_) ?_
  rotate_left
  · rfl
  · have kb := cells_of (old_in HB.out hx)
    have kt := cells_of (old_in HT.out hx)
    have kx := cells_of (old_in HX.out hx)
    go_simp
    (have q := below_in hx (shift_any a b c d e x); exact q)
  simp only [Act.put, List.setIfInBounds_toArray, List.set_cons_zero, List.set_cons_succ]
  refine quiet_yes ?_ ?_ (fun x hx => ?_) ?_
  rotate_left
  · rfl
  · have kb := cells_of (old_in HB.out hx)
    have kt := cells_of (old_in HT.out hx)
    have kx := cells_of (old_in HX.out hx)
    go_simp
    first | done | (with_reducible rfl) | rfl
  simp only [Act.put, List.setIfInBounds_toArray, List.set_cons_zero, List.set_cons_succ]
  refine quiet_yes ?_ ?_ (fun x hx => ?_) ?_
  rotate_left
  · rfl
  · have kb := cells_of (old_in HB.out hx)
    have kt := cells_of (old_in HT.out hx)
    have kx := cells_of (old_in HX.out hx)
    go_simp
    first | done | (with_reducible rfl) | rfl
  simp only [Act.put, List.setIfInBounds_toArray, List.set_cons_zero, List.set_cons_succ]
  refine quiet_yes ?_ ?_ (fun x hx => ?_) ?_
  rotate_left
  · rfl
  · have kb := cells_of (old_in HB.out hx)
    have kt := cells_of (old_in HT.out hx)
    have kx := cells_of (old_in HX.out hx)
    go_simp
    (have q := below_in hx (rshift_any a b c d e x); exact q)
  simp only [Act.put, List.setIfInBounds_toArray, List.set_cons_zero, List.set_cons_succ]
  refine quiet_yes ?_ ?_ (fun x hx => ?_) ?_
  rotate_left
  · rfl
  · have kb := cells_of (old_in HB.out hx)
    have kt := cells_of (old_in HT.out hx)
    have kx := cells_of (old_in HX.out hx)
    go_simp
    first | done | (with_reducible rfl) | rfl
  simp only [Act.put, List.setIfInBounds_toArray, List.set_cons_zero, List.set_cons_succ]
  refine quiet_yes ?_ ?_ (fun x hx => ?_) ?_
  rotate_left
  · rfl
  · have kb := cells_of (old_in HB.out hx)
    have kt := cells_of (old_in HT.out hx)
    have kx := cells_of (old_in HX.out hx)
    go_simp
    first | done | (with_reducible rfl) | rfl
  simp only [Act.put, List.setIfInBounds_toArray, List.set_cons_zero, List.set_cons_succ]
  refine quiet_yes ?_ ?_ (fun x hx => ?_) ?_
  rotate_left
  · rfl
  · have kb := cells_of (old_in HB.out hx)
    have kt := cells_of (old_in HT.out hx)
    have kx := cells_of (old_in HX.out hx)
    go_simp
    first | done | (with_reducible rfl) | rfl
  simp only [Act.put, List.setIfInBounds_toArray, List.set_cons_zero, List.set_cons_succ]
  refine quiet_yes ?_ ?_ (fun x hx => ?_) ?_
  rotate_left
  · rfl
  · have kb := cells_of (old_in HB.out hx)
    have kt := cells_of (old_in HT.out hx)
    have kx := cells_of (old_in HX.out hx)
    go_simp
    first | done | (with_reducible rfl) | rfl
  simp only [Act.put, List.setIfInBounds_toArray, List.set_cons_zero, List.set_cons_succ]
  refine quiet_yes ?_ ?_ (fun x hx => ?_) ?_
  rotate_left
  · rfl
  · have kb := cells_of (old_in HB.out hx)
    have kt := cells_of (old_in HT.out hx)
    have kx := cells_of (old_in HX.out hx)
    go_simp
    first | done | (with_reducible rfl) | rfl
  simp only [Act.put, List.setIfInBounds_toArray, List.set_cons_zero, List.set_cons_succ]
  refine quiet_yes ?_ ?_ (fun x hx => ?_) ?_
  rotate_left
  · rfl
  · have kb := cells_of (old_in HB.out hx)
    have kt := cells_of (old_in HT.out hx)
    have kx := cells_of (old_in HX.out hx)
    go_simp
    first | done | (with_reducible rfl) | rfl
  simp only [Act.put, List.setIfInBounds_toArray, List.set_cons_zero, List.set_cons_succ]
  refine quiet_yes ?_ ?_ (fun x hx => ?_) ?_
  rotate_left
  · rfl
  · have kb := cells_of (old_in HB.out hx)
    have kt := cells_of (old_in HT.out hx)
    have kx := cells_of (old_in HX.out hx)
    go_simp
    first | done | (with_reducible rfl) | rfl
  simp only [Act.put, List.setIfInBounds_toArray, List.set_cons_zero, List.set_cons_succ]
  refine quiet_yes ?_ ?_ (fun x hx => ?_) ?_
  rotate_left
  · rfl
  · have kb := cells_of (old_in HB.out hx)
    have kt := cells_of (old_in HT.out hx)
    have kx := cells_of (old_in HX.out hx)
    go_simp
    first | done | (with_reducible rfl) | rfl
  simp only [Act.put, List.setIfInBounds_toArray, List.set_cons_zero, List.set_cons_succ]
  refine quiet_yes ?_ ?_ (fun x hx => ?_) ?_
  rotate_left
  · rfl
  · have kb := cells_of (old_in HB.out hx)
    have kt := cells_of (old_in HT.out hx)
    have kx := cells_of (old_in HX.out hx)
    go_simp
    first | done | (with_reducible rfl) | rfl
  simp only [Act.put, List.setIfInBounds_toArray, List.set_cons_zero, List.set_cons_succ]
  refine quiet_yes ?_ ?_ (fun x hx => ?_) ?_
  rotate_left
  · rfl
  · have kb := cells_of (old_in HB.out hx)
    have kt := cells_of (old_in HT.out hx)
    have kx := cells_of (old_in HX.out hx)
    go_simp
    first | done | (with_reducible rfl) | rfl
  simp only [Act.put, List.setIfInBounds_toArray, List.set_cons_zero, List.set_cons_succ]
  refine quiet_yes ?_ ?_ (fun x hx => ?_) ?_
  rotate_left
  · rfl
  · have kb := cells_of (old_in HB.out hx)
    have kt := cells_of (old_in HT.out hx)
    have kx := cells_of (old_in HX.out hx)
    go_simp
    first | done | (with_reducible rfl) | rfl
  simp only [Act.put, List.setIfInBounds_toArray, List.set_cons_zero, List.set_cons_succ]
  refine quiet_yes ?_ ?_ (fun x hx => ?_) ?_
  rotate_left
  · rfl
  · have kb := cells_of (old_in HB.out hx)
    have kt := cells_of (old_in HT.out hx)
    have kx := cells_of (old_in HX.out hx)
    go_simp
    first | done | (with_reducible rfl) | rfl
  simp only [Act.put, List.setIfInBounds_toArray, List.set_cons_zero, List.set_cons_succ]
  refine quiet_yes ?_ ?_ (fun x hx => ?_) ?_
  rotate_left
  · rfl
  · have kb := cells_of (old_in HB.out hx)
    have kt := cells_of (old_in HT.out hx)
    have kx := cells_of (old_in HX.out hx)
    go_simp
    first | done | (with_reducible rfl) | rfl
  simp only [Act.put, List.setIfInBounds_toArray, List.set_cons_zero, List.set_cons_succ]
  refine quiet_yes ?_ ?_ (fun x hx => ?_) ?_
  rotate_left
  · rfl
  · have kb := cells_of (old_in HB.out hx)
    have kt := cells_of (old_in HT.out hx)
    have kx := cells_of (old_in HX.out hx)
    go_simp
    first | done | (with_reducible rfl) | rfl
  simp only [Act.put, List.setIfInBounds_toArray, List.set_cons_zero, List.set_cons_succ]
  refine quiet_yes ?_ ?_ (fun x hx => ?_) ?_
  rotate_left
  · rfl
  · have kb := cells_of (old_in HB.out hx)
    have kt := cells_of (old_in HT.out hx)
    have kx := cells_of (old_in HX.out hx)
    go_simp
    first | done | (with_reducible rfl) | rfl
  simp only [Act.put, List.setIfInBounds_toArray, List.set_cons_zero, List.set_cons_succ]
  refine quiet_yes ?_ ?_ (fun x hx => ?_) ?_
  rotate_left
  · rfl
  · have kb := cells_of (old_in HB.out hx)
    have kt := cells_of (old_in HT.out hx)
    have kx := cells_of (old_in HX.out hx)
    go_simp
    (have q := below_in hx (erase_any a b c d e x); exact q)
  simp only [Act.put, List.setIfInBounds_toArray, List.set_cons_zero, List.set_cons_succ]
  refine quiet_yes ?_ ?_ (fun x hx => ?_) ?_
  rotate_left
  · rfl
  · have kb := cells_of (old_in HB.out hx)
    have kt := cells_of (old_in HT.out hx)
    have kx := cells_of (old_in HX.out hx)
    go_simp
    first | done | (with_reducible rfl) | rfl
  simp only [Act.put, List.setIfInBounds_toArray, List.set_cons_zero, List.set_cons_succ]
  refine quiet_yes ?_ ?_ (fun x hx => ?_) ?_
  rotate_left
  · rfl
  · have kb := cells_of (old_in HB.out hx)
    have kt := cells_of (old_in HT.out hx)
    have kx := cells_of (old_in HX.out hx)
    go_simp
    first | done | (with_reducible rfl) | rfl
  simp only [Act.put, List.setIfInBounds_toArray, List.set_cons_zero, List.set_cons_succ]
  refine quiet_yes ?_ ?_ (fun x hx => ?_) ?_
  rotate_left
  · rfl
  · have kb := cells_of (old_in HB.out hx)
    have kt := cells_of (old_in HT.out hx)
    have kx := cells_of (old_in HX.out hx)
    go_simp
    first | done | (with_reducible rfl) | rfl
  simp only [Act.put, List.setIfInBounds_toArray, List.set_cons_zero, List.set_cons_succ]
  refine quiet_yes ?_ ?_ (fun x hx => ?_) ?_
  rotate_left
  · rfl
  · have kb := cells_of (old_in HB.out hx)
    have kt := cells_of (old_in HT.out hx)
    have kx := cells_of (old_in HX.out hx)
    go_simp
    first | done | (with_reducible rfl) | rfl
  simp only [Act.put, List.setIfInBounds_toArray, List.set_cons_zero, List.set_cons_succ]
  refine quiet_yes ?_ ?_ (fun x hx => ?_) ?_
  rotate_left
  · rfl
  · have kb := cells_of (old_in HB.out hx)
    have kt := cells_of (old_in HT.out hx)
    have kx := cells_of (old_in HX.out hx)
    go_simp
    first | done | (with_reducible rfl) | rfl
  simp only [Act.put, List.setIfInBounds_toArray, List.set_cons_zero, List.set_cons_succ]
  refine quiet_yes ?_ ?_ (fun x hx => ?_) ?_
  rotate_left
  · rfl
  · have kb := cells_of (old_in HB.out hx)
    have kt := cells_of (old_in HT.out hx)
    have kx := cells_of (old_in HX.out hx)
    go_simp
    first | done | (with_reducible rfl) | rfl
  simp only [Act.put, List.setIfInBounds_toArray, List.set_cons_zero, List.set_cons_succ]
  refine quiet_yes ?_ ?_ (fun x hx => ?_) ?_
  rotate_left
  · rfl
  · have kb := cells_of (old_in HB.out hx)
    have kt := cells_of (old_in HT.out hx)
    have kx := cells_of (old_in HX.out hx)
    go_simp
    first | done | (with_reducible rfl) | rfl
  simp only [Act.put, List.setIfInBounds_toArray, List.set_cons_zero, List.set_cons_succ]
  refine quiet_yes ?_ ?_ (fun x hx => ?_) ?_
  rotate_left
  · rfl
  · have kb := cells_of (old_in HB.out hx)
    have kt := cells_of (old_in HT.out hx)
    have kx := cells_of (old_in HX.out hx)
    go_simp
    (have q := below_in hx (alike_any a b c d e a2 b2 c2 d2 e2 x a0 a1 b0 b1 c0 c1 d0 d1 e0 e1 a20 a21 b20 b21 c20 c21 d20 d21 e20 e21); exact q)
  simp only [Act.put, List.setIfInBounds_toArray, List.set_cons_zero, List.set_cons_succ]
  refine quiet_yes ?_ ?_ (fun x hx => ?_) ?_
  rotate_left
  · rfl
  · have kb := cells_of (old_in HB.out hx)
    have kt := cells_of (old_in HT.out hx)
    have kx := cells_of (old_in HX.out hx)
    go_simp
    first | done | (with_reducible rfl) | rfl
  simp only [Act.put, List.setIfInBounds_toArray, List.set_cons_zero, List.set_cons_succ]
  refine quiet_yes ?_ ?_ (fun x hx => ?_) ?_
  rotate_left
  · rfl
  · have kb := cells_of (old_in HB.out hx)
    have kt := cells_of (old_in HT.out hx)
    have kx := cells_of (old_in HX.out hx)
    go_simp
    first | done | (with_reducible rfl) | rfl
  simp only [Act.put, List.setIfInBounds_toArray, List.set_cons_zero, List.set_cons_succ]
  refine quiet_yes ?_ ?_ (fun x hx => ?_) ?_
  rotate_left
  · rfl
  · have kb := cells_of (old_in HB.out hx)
    have kt := cells_of (old_in HT.out hx)
    have kx := cells_of (old_in HX.out hx)
    go_simp
    first | done | (with_reducible rfl) | rfl
  simp only [Act.put, List.setIfInBounds_toArray, List.set_cons_zero, List.set_cons_succ]
  refine quiet_yes ?_ ?_ (fun x hx => ?_) ?_
  rotate_left
  · rfl
  · have kb := cells_of (old_in HB.out hx)
    have kt := cells_of (old_in HT.out hx)
    have kx := cells_of (old_in HX.out hx)
    go_simp
    (have q := below_in hx (ralike_any a b c d e a2 b2 c2 d2 e2 x a0 a1 b0 b1 c0 c1 d0 d1 e0 e1 a20 a21 b20 b21 c20 c21 d20 d21 e20 e21); exact q)
  simp only [Act.put, List.setIfInBounds_toArray, List.set_cons_zero, List.set_cons_succ]
  refine quiet_yes ?_ ?_ (fun x hx => ?_) ?_
  rotate_left
  · rfl
  · have kb := cells_of (old_in HB.out hx)
    have kt := cells_of (old_in HT.out hx)
    have kx := cells_of (old_in HX.out hx)
    go_simp
    first | done | (with_reducible rfl) | rfl
  simp only [Act.put, List.setIfInBounds_toArray, List.set_cons_zero, List.set_cons_succ]
  refine quiet_yes ?_ ?_ (fun x hx => ?_) ?_
  rotate_left
  · rfl
  · have kb := cells_of (old_in HB.out hx)
    have kt := cells_of (old_in HT.out hx)
    have kx := cells_of (old_in HX.out hx)
    go_simp
    first | done | (with_reducible rfl) | rfl
  simp only [Act.put, List.setIfInBounds_toArray, List.set_cons_zero, List.set_cons_succ]
  refine quiet_yes ?_ ?_ (fun x hx => ?_) ?_
  rotate_left
  · rfl
  · have kb := cells_of (old_in HB.out hx)
    have kt := cells_of (old_in HT.out hx)
    have kx := cells_of (old_in HX.out hx)
    go_simp
    first | done | (with_reducible rfl) | rfl
  simp only [Act.put, List.setIfInBounds_toArray, List.set_cons_zero, List.set_cons_succ]
  refine quiet_yes ?_ ?_ (fun x hx => ?_) ?_
  rotate_left
  · rfl
  · have kb := cells_of (old_in HB.out hx)
    have kt := cells_of (old_in HT.out hx)
    have kx := cells_of (old_in HX.out hx)
    go_simp
    (have q := below_in hx (awake_any x); exact q)
  simp only [Act.put, List.setIfInBounds_toArray, List.set_cons_zero, List.set_cons_succ]
  refine quiet_yes ?_ ?_ (fun x hx => ?_) ?_
  rotate_left
  · rfl
  · have kb := cells_of (old_in HB.out hx)
    have kt := cells_of (old_in HT.out hx)
    have kx := cells_of (old_in HX.out hx)
    go_simp
    first | done | (with_reducible rfl) | rfl
  simp only [Act.put, List.setIfInBounds_toArray, List.set_cons_zero, List.set_cons_succ]
  refine quiet_yes ?_ ?_ (fun x hx => ?_) ?_
  rotate_left
  · rfl
  · have kb := cells_of (old_in HB.out hx)
    have kt := cells_of (old_in HT.out hx)
    have kx := cells_of (old_in HX.out hx)
    go_simp
    first | done | (with_reducible rfl) | rfl
  simp only [Act.put, List.setIfInBounds_toArray, List.set_cons_zero, List.set_cons_succ]
  refine wpQuiet_nil ?_
  intro y hy
  replace HG := Lib.hid (below_call HG.out hy)
  clear hy
  go_wp2
  go_ret
  exact ⟨rfl, HG.out⟩

set_option maxRecDepth 100000 in
theorem lifted (os : Os) (started : os.Started) (H : Type) (enc : TypeId × Value → H) :
    ReturnsInHanded {} Try.checked os 8 .any (Rows.tileTellsSpec.pre6 enc Try.prog Try.f8 Rows.tileTellsRow.domain false) (Rows.tileTellsSpec.post enc Try.prog Try.f8 false true false false) := by
  refine returnsInHanded_of_change (C := Try.checked) own started (by kernel_rfl) Try.func8
    (ChangeSpec.witness6 (enc := enc) (C := Try.checked) false ⟨#[], #[.agg #[.int .u16 0, .int .u16 0, .int .u16 0, .int .u16 0, .int .u16 0, .int .u8 0, .bool false, .int .u8 0, .bool false, .int .u8 0, .bool false, .int .u8 0], .agg #[.int .u16 0, .int .u16 0, .int .u16 0, .int .u16 0, .int .u16 0]], []⟩ 8 (by kernel_rfl) (by kernel_rfl) (by kernel_rfl) (by kernel_rfl)) ?_
  intro W base args ds gs before hval0 hW hcnd _
  have hval : ∀ (j : Nat) t v, Try.f8.params[j]? = some t → args[j]? = some v → Value.okWide Try.prog W .any base t v := hval0
  have hW' := hW
  obtain ⟨p, q, hA0, hV, rfl, hfz, hnd⟩ := hW
  have hA : DataW.TrodAll enc Try.prog W 0 (fun _ => true) true Try.f8.params.toList args.toList ds p := hA0
  rw [Try.params8] at hA hval
  obtain ⟨v0, vs0, d0, ds0, p0, q0, hargs, rfl, rfl, h0, r0⟩ := trodAll_cons hA
  obtain ⟨v1, vs1, d1, ds1, p1, q1, rfl, rfl, rfl, h1, r1⟩ := trodAll_cons r0
  obtain ⟨rfl, rfl, rfl⟩ := trodAll_nil r1
  obtain rfl : args = #[v0, v1] := by cases args; simp_all
  obtain ⟨rfl, rfl⟩ := trodVars_none hV
  obtain ⟨a, b, c, d, e, lv, ls, hv, hs, ti, s, u, rfl, rfl, w_a, w_b, w_c, w_d, w_e, w_lv, w_hv, w_ti, w_u⟩ := open_ask (hval 0 28 v0 rfl rfl) h0
  obtain ⟨a2, b2, c2, d2, e2, rfl, rfl, w_a2, w_b2, w_c2, w_d2, w_e2⟩ := open_tile (hval 1 24 v1 rfl rfl) h1
  clear hA0 hval0
  simp only [List.append_nil] at hW'
  refine (walk a b c d e lv ls hv hs ti s u w_a w_b w_c w_d w_e w_lv w_hv w_ti w_u a2 b2 c2 d2 e2 w_a2 w_b2 w_c2 w_d2 w_e2 W).mono fun e W' ⟨he, hg⟩ => ?_
  subst he
  exact ⟨_, rfl, _, _, _, [], _, [], hW', trodAll_mk1 (shut_bool Try.underlying4 _), (trodAll_cons_mk (stay28 h0) (trodAll_cons_mk (stay24 h1) trodAll_mk0)), rfl, hg.frame _, fun h => by cases h⟩

theorem over : Rows.tileTellsRow.holds Try.pinned (OpenSpec.ofChange Rows.tileTellsSpec) :=
  OpenClaim.holds_of_wide 8 Try.f8 rfl rfl rfl rfl rfl rfl rfl ⟨rfl, rfl, rfl, rfl, rfl⟩ rfl rfl rfl rfl rfl (by kernel_rfl) Try.func8 (by kernel_rfl)
    (of_decide_eq_true (by kernel_rfl)) (by unfold Func.isWrapper; first | (rw [if_pos (by decide +kernel)]; kernel_rfl) | (rw [if_neg (by decide +kernel)]; exact ⟨rfl, rfl⟩))
    (fun os started H enc _ => lifted os started H enc)

/-- THE STATEMENT -/
theorem proved : Rows.TileTellsSaid :=
  over
#print axioms proved
end Go.Proofs.Ytnmobjjinidmiaa.tileTells
