/- The contract of the reference's Load, three ways. -/
import Derived.Test.YtnmobjjinidmiaaR
import Derived.Test.YtnmobjjinidmiaaA
namespace Go.Proofs.Ytnmobjjinidmiaa
open Go.ChangeShapes Go.WideShapes Go.ChangeAt Go.RowKit
theorem row_at0 (x : World) (o : Obj) (n : Nat) (hn : x.heap.size = n) : (x.alloc o).heap[n]? = some o := by
  subst hn
  exact heap_alloc_new _ _
theorem row_at1 (x : World) (o p : Obj) (n : Nat) (hn : x.heap.size = n) : ((x.alloc o).alloc p).heap[n]? = some o := by
  subst hn
  exact heap_alloc2_old _ _ _
theorem row_at2 (x : World) (o p q : Obj) (n : Nat) (hn : x.heap.size = n) : (((x.alloc o).alloc p).alloc q).heap[n]? = some o := by
  rw [heap_alloc_old _ _ (by rw [World.size_alloc, World.size_alloc, hn]; exact Nat.lt_succ_of_lt (Nat.lt_succ_self _))]
  exact row_at1 x o p n hn
theorem row_at3 (x : World) (o p q r : Obj) : ((((x.alloc o).alloc p).alloc q).alloc r).heap[x.heap.size]? = some o := by
  rw [heap_alloc_old _ _ (by rw [World.size_alloc, World.size_alloc, World.size_alloc]; omega)]
  exact row_at2 x o p q _ rfl
set_option maxHeartbeats 4000000 in
theorem rload_t (a b c d e lv hv ti : Int) (ls hs : Bool) (w : World) (a0 : 0 ≤ a) (a1 : a ≤ 65535) (b0 : 0 ≤ b) (b1 : b ≤ 65535) (c0 : 0 ≤ c) (c1 : c ≤ 65535) (d0 : 0 ≤ d) (d1 : d ≤ 65535) (e0 : 0 ≤ e) (e1 : e ≤ 65535) (l0 : 0 ≤ lv) (l1 : lv ≤ 255) (h0 : 0 ≤ hv) (h1 : hv ≤ 255) (t0 : 0 ≤ ti) (t1 : ti ≤ 255) :
    Calls Try.prog 18 #[.agg #[.int .u16 a, .int .u16 b, .int .u16 c, .int .u16 d, .int .u16 e], .agg #[.int .u8 lv, .bool ls], .agg #[.int .u8 hv, .bool hs], .int .u8 ti, .bool true] w fun r w' => r = .returned (.agg #[.int .u16 (ld a lv), .int .u16 (ld b hv), .int .u16 (ld c (spr (ti % 2 == 1))), .int .u16 (ld d (spr (ti / 2 % 2 == 1))), .int .u16 (ld e (spr true))]) ∧ Below w.heap.size w w' := by
  obtain ⟨p0, p1⟩ := spr_bd (ti % 2 == 1)
  obtain ⟨q0, q1⟩ := spr_bd (ti / 2 % 2 == 1)
  obtain ⟨r0, r1⟩ := spr_bd true
  have hq2 : IntKind.u8.wrap (ti.tdiv 2) = ti / 2 := by rw [Int.tdiv_eq_ediv_of_nonneg t0, IntWalk.u8_in _ (by omega)]
  have wl : IntKind.i64.wrap lv = lv := IntWalk.i64_in _ (by omega)
  have wh : IntKind.i64.wrap hv = hv := IntWalk.i64_in _ (by omega)
  have m1 : ti.tmod 2 = ti % 2 := Int.tmod_eq_emod_of_nonneg t0
  have m2 : (ti / 2).tmod 2 = ti / 2 % 2 := Int.tmod_eq_emod_of_nonneg (by omega)
  go_enter Try.func18, Try.ntmps18
  go_wp2_with fail
  generalize hW : World.alloc _ _ = W
  have k0 : W.heap[w.heap.size]? = some (.cells #[.int .u16 a, .int .u16 b, .int .u16 c, .int .u16 d, .int .u16 e] 24 (0, 0)) := by rw [← hW]; exact row_at3 _ _ _ _ _
  have k1 : W.heap[w.heap.size + 1]? = some (.cells #[.int .u8 lv, .bool ls] 26 (0, 0)) := by rw [← hW]; exact row_at2 _ _ _ _ _ (by rw [World.size_alloc])
  have k2 : W.heap[w.heap.size + 1 + 1]? = some (.cells #[.int .u8 hv, .bool hs] 26 (0, 0)) := by rw [← hW]; exact row_at1 _ _ _ _ (by rw [World.size_alloc, World.size_alloc])
  have k3 : W.heap[w.heap.size + 1 + 1 + 1]? = some (.cells #[.int .u16 0, .int .u16 0, .int .u16 0, .int .u16 0, .int .u16 0] 24 (0, 0)) := by rw [← hW]; exact row_at0 _ _ _ (by rw [World.size_alloc, World.size_alloc, World.size_alloc])
  have hb : Below w.heap.size w W := by rw [← hW]; go_grown
  have hz0 : w.heap.size < w.heap.size + 1 + 1 + 1 := by omega
  have hz1 : w.heap.size + 1 < w.heap.size + 1 + 1 + 1 := by omega
  have hz2 : w.heap.size + 1 + 1 < w.heap.size + 1 + 1 + 1 := by omega
  have R0 := Lib.hid k0
  have R1 := Lib.hid k1
  have R2 := Lib.hid k2
  have R3 := Lib.hid k3
  have HB := Lib.hid hb
  clear hW k0 k1 k2 k3 hb
  refine wp_region_calm 41 (by kernel_rfl) (by kernel_rfl) (fun _ _ d _ _ h => by cases d <;> exact h) (S := fun x => Below (w.heap.size + 1 + 1 + 1) W x) ((Below.refl _ _).drew) ?_
  simp only [List.take_succ_cons, List.take_zero, List.drop_succ_cons, List.drop_zero]
  refine wpCalm_yes ?_ ?_ (fun x hx => ?_) ?_
  rotate_left
  · rfl
  · have s0 := cells_of ((hx.block _ hz0).trans R0.out)
    have s1 := cells_of ((hx.block _ hz1).trans R1.out)
    have s2 := cells_of ((hx.block _ hz2).trans R2.out)
    clear hx
    go_simp
    first | done | rfl
  simp only [Act.put, List.setIfInBounds_toArray, List.set_cons_zero, List.set_cons_succ]
  refine wpCalm_yes ?_ ?_ (fun x hx => ?_) ?_
  rotate_left
  · rfl
  · have s0 := cells_of ((hx.block _ hz0).trans R0.out)
    have s1 := cells_of ((hx.block _ hz1).trans R1.out)
    have s2 := cells_of ((hx.block _ hz2).trans R2.out)
    clear hx
    go_simp
    first | done | rfl
  simp only [Act.put, List.setIfInBounds_toArray, List.set_cons_zero, List.set_cons_succ]
  refine wpCalm_yes ?_ ?_ (fun x hx => ?_) ?_
  rotate_left
  · rfl
  · have s0 := cells_of ((hx.block _ hz0).trans R0.out)
    have s1 := cells_of ((hx.block _ hz1).trans R1.out)
    have s2 := cells_of ((hx.block _ hz2).trans R2.out)
    clear hx
    go_simp
    first | done | rfl
  simp only [Act.put, List.setIfInBounds_toArray, List.set_cons_zero, List.set_cons_succ]
  refine wpCalm_yes ?_ ?_ (fun x hx => ?_) ?_
  rotate_left
  · rfl
  · have s0 := cells_of ((hx.block _ hz0).trans R0.out)
    have s1 := cells_of ((hx.block _ hz1).trans R1.out)
    have s2 := cells_of ((hx.block _ hz2).trans R2.out)
    clear hx
    go_simp
    first | done | rfl
  simp only [Act.put, List.setIfInBounds_toArray, List.set_cons_zero, List.set_cons_succ]
  refine wpCalm_yes ?_ ?_ (fun x hx => ?_) ?_
  rotate_left
  · rfl
  · have s0 := cells_of ((hx.block _ hz0).trans R0.out)
    have s1 := cells_of ((hx.block _ hz1).trans R1.out)
    have s2 := cells_of ((hx.block _ hz2).trans R2.out)
    clear hx
    go_simp
    first | done | rfl
  simp only [Act.put, List.setIfInBounds_toArray, List.set_cons_zero, List.set_cons_succ]
  refine wpCalm_yes ?_ ?_ (fun x hx => ?_) ?_
  rotate_left
  · rfl
  · have s0 := cells_of ((hx.block _ hz0).trans R0.out)
    have s1 := cells_of ((hx.block _ hz1).trans R1.out)
    have s2 := cells_of ((hx.block _ hz2).trans R2.out)
    clear hx
    go_simp
    (have q := lower_any a lv x a0 a1 l0 l1; exact q)
  simp only [Act.put, List.setIfInBounds_toArray, List.set_cons_zero, List.set_cons_succ]
  refine wpCalm_yes ?_ ?_ (fun x hx => ?_) ?_
  rotate_left
  · rfl
  · have s0 := cells_of ((hx.block _ hz0).trans R0.out)
    have s1 := cells_of ((hx.block _ hz1).trans R1.out)
    have s2 := cells_of ((hx.block _ hz2).trans R2.out)
    clear hx
    go_simp
    first | done | rfl
  simp only [Act.put, List.setIfInBounds_toArray, List.set_cons_zero, List.set_cons_succ]
  refine wpCalm_yes ?_ ?_ (fun x hx => ?_) ?_
  rotate_left
  · rfl
  · have s0 := cells_of ((hx.block _ hz0).trans R0.out)
    have s1 := cells_of ((hx.block _ hz1).trans R1.out)
    have s2 := cells_of ((hx.block _ hz2).trans R2.out)
    clear hx
    go_simp
    first | done | rfl
  simp only [Act.put, List.setIfInBounds_toArray, List.set_cons_zero, List.set_cons_succ]
  refine wpCalm_yes ?_ ?_ (fun x hx => ?_) ?_
  rotate_left
  · rfl
  · have s0 := cells_of ((hx.block _ hz0).trans R0.out)
    have s1 := cells_of ((hx.block _ hz1).trans R1.out)
    have s2 := cells_of ((hx.block _ hz2).trans R2.out)
    clear hx
    go_simp
    first | done | rfl
  simp only [Act.put, List.setIfInBounds_toArray, List.set_cons_zero, List.set_cons_succ]
  refine wpCalm_yes ?_ ?_ (fun x hx => ?_) ?_
  rotate_left
  · rfl
  · have s0 := cells_of ((hx.block _ hz0).trans R0.out)
    have s1 := cells_of ((hx.block _ hz1).trans R1.out)
    have s2 := cells_of ((hx.block _ hz2).trans R2.out)
    clear hx
    go_simp
    first | done | rfl
  simp only [Act.put, List.setIfInBounds_toArray, List.set_cons_zero, List.set_cons_succ]
  refine wpCalm_yes ?_ ?_ (fun x hx => ?_) ?_
  rotate_left
  · rfl
  · have s0 := cells_of ((hx.block _ hz0).trans R0.out)
    have s1 := cells_of ((hx.block _ hz1).trans R1.out)
    have s2 := cells_of ((hx.block _ hz2).trans R2.out)
    clear hx
    go_simp
    first | done | rfl
  simp only [Act.put, List.setIfInBounds_toArray, List.set_cons_zero, List.set_cons_succ]
  refine wpCalm_yes ?_ ?_ (fun x hx => ?_) ?_
  rotate_left
  · rfl
  · have s0 := cells_of ((hx.block _ hz0).trans R0.out)
    have s1 := cells_of ((hx.block _ hz1).trans R1.out)
    have s2 := cells_of ((hx.block _ hz2).trans R2.out)
    clear hx
    go_simp
    (have q := lower_any b hv x b0 b1 h0 h1; exact q)
  simp only [Act.put, List.setIfInBounds_toArray, List.set_cons_zero, List.set_cons_succ]
  refine wpCalm_yes ?_ ?_ (fun x hx => ?_) ?_
  rotate_left
  · rfl
  · have s0 := cells_of ((hx.block _ hz0).trans R0.out)
    have s1 := cells_of ((hx.block _ hz1).trans R1.out)
    have s2 := cells_of ((hx.block _ hz2).trans R2.out)
    clear hx
    go_simp
    first | done | rfl
  simp only [Act.put, List.setIfInBounds_toArray, List.set_cons_zero, List.set_cons_succ]
  refine wpCalm_yes ?_ ?_ (fun x hx => ?_) ?_
  rotate_left
  · rfl
  · have s0 := cells_of ((hx.block _ hz0).trans R0.out)
    have s1 := cells_of ((hx.block _ hz1).trans R1.out)
    have s2 := cells_of ((hx.block _ hz2).trans R2.out)
    clear hx
    go_simp
    first | done | rfl
  simp only [Act.put, List.setIfInBounds_toArray, List.set_cons_zero, List.set_cons_succ]
  refine wpCalm_yes ?_ ?_ (fun x hx => ?_) ?_
  rotate_left
  · rfl
  · have s0 := cells_of ((hx.block _ hz0).trans R0.out)
    have s1 := cells_of ((hx.block _ hz1).trans R1.out)
    have s2 := cells_of ((hx.block _ hz2).trans R2.out)
    clear hx
    go_simp
    first | done | rfl
  simp only [Act.put, List.setIfInBounds_toArray, List.set_cons_zero, List.set_cons_succ]
  refine wpCalm_yes ?_ ?_ (fun x hx => ?_) ?_
  rotate_left
  · rfl
  · have s0 := cells_of ((hx.block _ hz0).trans R0.out)
    have s1 := cells_of ((hx.block _ hz1).trans R1.out)
    have s2 := cells_of ((hx.block _ hz2).trans R2.out)
    clear hx
    go_simp
    first | done | rfl
  simp only [Act.put, List.setIfInBounds_toArray, List.set_cons_zero, List.set_cons_succ]
  refine wpCalm_yes ?_ ?_ (fun x hx => ?_) ?_
  rotate_left
  · rfl
  · have s0 := cells_of ((hx.block _ hz0).trans R0.out)
    have s1 := cells_of ((hx.block _ hz1).trans R1.out)
    have s2 := cells_of ((hx.block _ hz2).trans R2.out)
    clear hx
    go_simp
    first | done | rfl
  simp only [Act.put, List.setIfInBounds_toArray, List.set_cons_zero, List.set_cons_succ]
  refine wpCalm_yes ?_ ?_ (fun x hx => ?_) ?_
  rotate_left
  · rfl
  · have s0 := cells_of ((hx.block _ hz0).trans R0.out)
    have s1 := cells_of ((hx.block _ hz1).trans R1.out)
    have s2 := cells_of ((hx.block _ hz2).trans R2.out)
    clear hx
    go_simp
    (have q := eight_any (ti % 2 == 1) x; exact q)
  simp only [Act.put, List.setIfInBounds_toArray, List.set_cons_zero, List.set_cons_succ]
  refine wpCalm_yes ?_ ?_ (fun x hx => ?_) ?_
  rotate_left
  · rfl
  · have s0 := cells_of ((hx.block _ hz0).trans R0.out)
    have s1 := cells_of ((hx.block _ hz1).trans R1.out)
    have s2 := cells_of ((hx.block _ hz2).trans R2.out)
    clear hx
    go_simp
    (have q := lower_any c _ x c0 c1 p0 p1; exact q)
  simp only [Act.put, List.setIfInBounds_toArray, List.set_cons_zero, List.set_cons_succ]
  refine wpCalm_yes ?_ ?_ (fun x hx => ?_) ?_
  rotate_left
  · rfl
  · have s0 := cells_of ((hx.block _ hz0).trans R0.out)
    have s1 := cells_of ((hx.block _ hz1).trans R1.out)
    have s2 := cells_of ((hx.block _ hz2).trans R2.out)
    clear hx
    go_simp
    first | done | rfl
  simp only [Act.put, List.setIfInBounds_toArray, List.set_cons_zero, List.set_cons_succ]
  refine wpCalm_yes ?_ ?_ (fun x hx => ?_) ?_
  rotate_left
  · rfl
  · have s0 := cells_of ((hx.block _ hz0).trans R0.out)
    have s1 := cells_of ((hx.block _ hz1).trans R1.out)
    have s2 := cells_of ((hx.block _ hz2).trans R2.out)
    clear hx
    go_simp
    first | done | rfl
  simp only [Act.put, List.setIfInBounds_toArray, List.set_cons_zero, List.set_cons_succ]
  refine wpCalm_yes ?_ ?_ (fun x hx => ?_) ?_
  rotate_left
  · rfl
  · have s0 := cells_of ((hx.block _ hz0).trans R0.out)
    have s1 := cells_of ((hx.block _ hz1).trans R1.out)
    have s2 := cells_of ((hx.block _ hz2).trans R2.out)
    clear hx
    go_simp
    first | done | rfl
  simp only [Act.put, List.setIfInBounds_toArray, List.set_cons_zero, List.set_cons_succ]
  refine wpCalm_yes ?_ ?_ (fun x hx => ?_) ?_
  rotate_left
  · rfl
  · have s0 := cells_of ((hx.block _ hz0).trans R0.out)
    have s1 := cells_of ((hx.block _ hz1).trans R1.out)
    have s2 := cells_of ((hx.block _ hz2).trans R2.out)
    clear hx
    go_simp
    first | done | rfl
  simp only [Act.put, List.setIfInBounds_toArray, List.set_cons_zero, List.set_cons_succ]
  refine wpCalm_yes ?_ ?_ (fun x hx => ?_) ?_
  rotate_left
  · rfl
  · have s0 := cells_of ((hx.block _ hz0).trans R0.out)
    have s1 := cells_of ((hx.block _ hz1).trans R1.out)
    have s2 := cells_of ((hx.block _ hz2).trans R2.out)
    clear hx
    go_simp
    first | done | rfl
  simp only [Act.put, List.setIfInBounds_toArray, List.set_cons_zero, List.set_cons_succ]
  refine wpCalm_yes ?_ ?_ (fun x hx => ?_) ?_
  rotate_left
  · rfl
  · have s0 := cells_of ((hx.block _ hz0).trans R0.out)
    have s1 := cells_of ((hx.block _ hz1).trans R1.out)
    have s2 := cells_of ((hx.block _ hz2).trans R2.out)
    clear hx
    go_simp
    first | done | rfl
  simp only [Act.put, List.setIfInBounds_toArray, List.set_cons_zero, List.set_cons_succ]
  refine wpCalm_yes ?_ ?_ (fun x hx => ?_) ?_
  rotate_left
  · rfl
  · have s0 := cells_of ((hx.block _ hz0).trans R0.out)
    have s1 := cells_of ((hx.block _ hz1).trans R1.out)
    have s2 := cells_of ((hx.block _ hz2).trans R2.out)
    clear hx
    go_simp
    (have q := eight_any (ti / 2 % 2 == 1) x; exact q)
  simp only [Act.put, List.setIfInBounds_toArray, List.set_cons_zero, List.set_cons_succ]
  refine wpCalm_yes ?_ ?_ (fun x hx => ?_) ?_
  rotate_left
  · rfl
  · have s0 := cells_of ((hx.block _ hz0).trans R0.out)
    have s1 := cells_of ((hx.block _ hz1).trans R1.out)
    have s2 := cells_of ((hx.block _ hz2).trans R2.out)
    clear hx
    go_simp
    (have q := lower_any d _ x d0 d1 q0 q1; exact q)
  simp only [Act.put, List.setIfInBounds_toArray, List.set_cons_zero, List.set_cons_succ]
  refine wpCalm_yes ?_ ?_ (fun x hx => ?_) ?_
  rotate_left
  · rfl
  · have s0 := cells_of ((hx.block _ hz0).trans R0.out)
    have s1 := cells_of ((hx.block _ hz1).trans R1.out)
    have s2 := cells_of ((hx.block _ hz2).trans R2.out)
    clear hx
    go_simp
    first | done | rfl
  simp only [Act.put, List.setIfInBounds_toArray, List.set_cons_zero, List.set_cons_succ]
  refine wpCalm_yes ?_ ?_ (fun x hx => ?_) ?_
  rotate_left
  · rfl
  · have s0 := cells_of ((hx.block _ hz0).trans R0.out)
    have s1 := cells_of ((hx.block _ hz1).trans R1.out)
    have s2 := cells_of ((hx.block _ hz2).trans R2.out)
    clear hx
    go_simp
    first | done | rfl
  simp only [Act.put, List.setIfInBounds_toArray, List.set_cons_zero, List.set_cons_succ]
  refine wpCalm_yes ?_ ?_ (fun x hx => ?_) ?_
  rotate_left
  · rfl
  · have s0 := cells_of ((hx.block _ hz0).trans R0.out)
    have s1 := cells_of ((hx.block _ hz1).trans R1.out)
    have s2 := cells_of ((hx.block _ hz2).trans R2.out)
    clear hx
    go_simp
    first | done | rfl
  simp only [Act.put, List.setIfInBounds_toArray, List.set_cons_zero, List.set_cons_succ]
  refine wpCalm_yes ?_ ?_ (fun x hx => ?_) ?_
  rotate_left
  · rfl
  · have s0 := cells_of ((hx.block _ hz0).trans R0.out)
    have s1 := cells_of ((hx.block _ hz1).trans R1.out)
    have s2 := cells_of ((hx.block _ hz2).trans R2.out)
    clear hx
    go_simp
    first | done | rfl
  simp only [Act.put, List.setIfInBounds_toArray, List.set_cons_zero, List.set_cons_succ]
  refine wpCalm_no ?_ ?_
  · rfl
  simp only [Act.put, List.setIfInBounds_toArray, List.set_cons_zero, List.set_cons_succ]
  refine wpCalm_no ?_ ?_
  · rfl
  simp only [Act.put, List.setIfInBounds_toArray, List.set_cons_zero, List.set_cons_succ]
  refine wpCalm_yes ?_ ?_ (fun x hx => ?_) ?_
  rotate_left
  · rfl
  · have s0 := cells_of ((hx.block _ hz0).trans R0.out)
    have s1 := cells_of ((hx.block _ hz1).trans R1.out)
    have s2 := cells_of ((hx.block _ hz2).trans R2.out)
    clear hx
    go_simp
    first | done | rfl
  simp only [Act.put, List.setIfInBounds_toArray, List.set_cons_zero, List.set_cons_succ]
  refine wpCalm_yes ?_ ?_ (fun x hx => ?_) ?_
  rotate_left
  · rfl
  · have s0 := cells_of ((hx.block _ hz0).trans R0.out)
    have s1 := cells_of ((hx.block _ hz1).trans R1.out)
    have s2 := cells_of ((hx.block _ hz2).trans R2.out)
    clear hx
    go_simp
    first | done | rfl
  simp only [Act.put, List.setIfInBounds_toArray, List.set_cons_zero, List.set_cons_succ]
  refine wpCalm_no ?_ ?_
  · rfl
  simp only [Act.put, List.setIfInBounds_toArray, List.set_cons_zero, List.set_cons_succ]
  refine wpCalm_no ?_ ?_
  · rfl
  simp only [Act.put, List.setIfInBounds_toArray, List.set_cons_zero, List.set_cons_succ]
  refine wpCalm_yes ?_ ?_ (fun x hx => ?_) ?_
  rotate_left
  · rfl
  · have s0 := cells_of ((hx.block _ hz0).trans R0.out)
    have s1 := cells_of ((hx.block _ hz1).trans R1.out)
    have s2 := cells_of ((hx.block _ hz2).trans R2.out)
    clear hx
    go_simp
    first | done | rfl
  simp only [Act.put, List.setIfInBounds_toArray, List.set_cons_zero, List.set_cons_succ]
  refine wpCalm_yes ?_ ?_ (fun x hx => ?_) ?_
  rotate_left
  · rfl
  · have s0 := cells_of ((hx.block _ hz0).trans R0.out)
    have s1 := cells_of ((hx.block _ hz1).trans R1.out)
    have s2 := cells_of ((hx.block _ hz2).trans R2.out)
    clear hx
    go_simp
    (have q := eight_any true x; exact q)
  simp only [Act.put, List.setIfInBounds_toArray, List.set_cons_zero, List.set_cons_succ]
  refine wpCalm_yes ?_ ?_ (fun x hx => ?_) ?_
  rotate_left
  · rfl
  · have s0 := cells_of ((hx.block _ hz0).trans R0.out)
    have s1 := cells_of ((hx.block _ hz1).trans R1.out)
    have s2 := cells_of ((hx.block _ hz2).trans R2.out)
    clear hx
    go_simp
    (have q := lower_any e _ x e0 e1 r0 r1; exact q)
  simp only [Act.put, List.setIfInBounds_toArray, List.set_cons_zero, List.set_cons_succ]
  refine wpCalm_yes ?_ ?_ (fun x hx => ?_) ?_
  rotate_left
  · rfl
  · have s0 := cells_of ((hx.block _ hz0).trans R0.out)
    have s1 := cells_of ((hx.block _ hz1).trans R1.out)
    have s2 := cells_of ((hx.block _ hz2).trans R2.out)
    clear hx
    go_simp
    first | done | rfl
  simp only [Act.put, List.setIfInBounds_toArray, List.set_cons_zero, List.set_cons_succ]
  refine wpCalm_end ?_
  refine wpSeq_yes rfl (wp_store_row 24 (.tmp 10) (.tmp 51) rfl (w.heap.size + 1 + 1 + 1) _ rfl rfl 24 _ R3.out (by kernel_rfl) rfl (one5 _ _ _ _ _) ⟨Below.setRow (Below.refl _ _).drew (Nat.le_refl _) _, wpSeq_end ?_⟩)
  go_wp2
  exact bodyPost_ret (results_cell_row (p := 10) (ty := 24) rfl _ _ (w.heap.size + 1 + 1 + 1) 24 _ (0, 0) _ rfl (setRow_heap _ _ _ _ _ _ R3.out) Try.underlying24 rfl (by kernel_rfl)) rfl ⟨rfl, Below.setRow HB.out.drew (by omega) _⟩
set_option maxHeartbeats 4000000 in
theorem rload_ft (a b c d e lv hv ti : Int) (hs : Bool) (w : World) (a0 : 0 ≤ a) (a1 : a ≤ 65535) (b0 : 0 ≤ b) (b1 : b ≤ 65535) (c0 : 0 ≤ c) (c1 : c ≤ 65535) (d0 : 0 ≤ d) (d1 : d ≤ 65535) (e0 : 0 ≤ e) (e1 : e ≤ 65535) (l0 : 0 ≤ lv) (l1 : lv ≤ 255) (h0 : 0 ≤ hv) (h1 : hv ≤ 255) (t0 : 0 ≤ ti) (t1 : ti ≤ 255) :
    Calls Try.prog 18 #[.agg #[.int .u16 a, .int .u16 b, .int .u16 c, .int .u16 d, .int .u16 e], .agg #[.int .u8 lv, .bool true], .agg #[.int .u8 hv, .bool hs], .int .u8 ti, .bool false] w fun r w' => r = .returned (.agg #[.int .u16 (ld a lv), .int .u16 (ld b hv), .int .u16 (ld c (spr (ti % 2 == 1))), .int .u16 (ld d (spr (ti / 2 % 2 == 1))), .int .u16 (ld e (spr true))]) ∧ Below w.heap.size w w' := by
  obtain ⟨p0, p1⟩ := spr_bd (ti % 2 == 1)
  obtain ⟨q0, q1⟩ := spr_bd (ti / 2 % 2 == 1)
  obtain ⟨r0, r1⟩ := spr_bd true
  have hq2 : IntKind.u8.wrap (ti.tdiv 2) = ti / 2 := by rw [Int.tdiv_eq_ediv_of_nonneg t0, IntWalk.u8_in _ (by omega)]
  have wl : IntKind.i64.wrap lv = lv := IntWalk.i64_in _ (by omega)
  have wh : IntKind.i64.wrap hv = hv := IntWalk.i64_in _ (by omega)
  have m1 : ti.tmod 2 = ti % 2 := Int.tmod_eq_emod_of_nonneg t0
  have m2 : (ti / 2).tmod 2 = ti / 2 % 2 := Int.tmod_eq_emod_of_nonneg (by omega)
  go_enter Try.func18, Try.ntmps18
  go_wp2_with fail
  generalize hW : World.alloc _ _ = W
  have k0 : W.heap[w.heap.size]? = some (.cells #[.int .u16 a, .int .u16 b, .int .u16 c, .int .u16 d, .int .u16 e] 24 (0, 0)) := by rw [← hW]; exact row_at3 _ _ _ _ _
  have k1 : W.heap[w.heap.size + 1]? = some (.cells #[.int .u8 lv, .bool true] 26 (0, 0)) := by rw [← hW]; exact row_at2 _ _ _ _ _ (by rw [World.size_alloc])
  have k2 : W.heap[w.heap.size + 1 + 1]? = some (.cells #[.int .u8 hv, .bool hs] 26 (0, 0)) := by rw [← hW]; exact row_at1 _ _ _ _ (by rw [World.size_alloc, World.size_alloc])
  have k3 : W.heap[w.heap.size + 1 + 1 + 1]? = some (.cells #[.int .u16 0, .int .u16 0, .int .u16 0, .int .u16 0, .int .u16 0] 24 (0, 0)) := by rw [← hW]; exact row_at0 _ _ _ (by rw [World.size_alloc, World.size_alloc, World.size_alloc])
  have hb : Below w.heap.size w W := by rw [← hW]; go_grown
  have hz0 : w.heap.size < w.heap.size + 1 + 1 + 1 := by omega
  have hz1 : w.heap.size + 1 < w.heap.size + 1 + 1 + 1 := by omega
  have hz2 : w.heap.size + 1 + 1 < w.heap.size + 1 + 1 + 1 := by omega
  have R0 := Lib.hid k0
  have R1 := Lib.hid k1
  have R2 := Lib.hid k2
  have R3 := Lib.hid k3
  have HB := Lib.hid hb
  clear hW k0 k1 k2 k3 hb
  refine wp_region_calm 41 (by kernel_rfl) (by kernel_rfl) (fun _ _ d _ _ h => by cases d <;> exact h) (S := fun x => Below (w.heap.size + 1 + 1 + 1) W x) ((Below.refl _ _).drew) ?_
  simp only [List.take_succ_cons, List.take_zero, List.drop_succ_cons, List.drop_zero]
  refine wpCalm_yes ?_ ?_ (fun x hx => ?_) ?_
  rotate_left
  · rfl
  · have s0 := cells_of ((hx.block _ hz0).trans R0.out)
    have s1 := cells_of ((hx.block _ hz1).trans R1.out)
    have s2 := cells_of ((hx.block _ hz2).trans R2.out)
    clear hx
    go_simp
    first | done | rfl
  simp only [Act.put, List.setIfInBounds_toArray, List.set_cons_zero, List.set_cons_succ]
  refine wpCalm_yes ?_ ?_ (fun x hx => ?_) ?_
  rotate_left
  · rfl
  · have s0 := cells_of ((hx.block _ hz0).trans R0.out)
    have s1 := cells_of ((hx.block _ hz1).trans R1.out)
    have s2 := cells_of ((hx.block _ hz2).trans R2.out)
    clear hx
    go_simp
    first | done | rfl
  simp only [Act.put, List.setIfInBounds_toArray, List.set_cons_zero, List.set_cons_succ]
  refine wpCalm_yes ?_ ?_ (fun x hx => ?_) ?_
  rotate_left
  · rfl
  · have s0 := cells_of ((hx.block _ hz0).trans R0.out)
    have s1 := cells_of ((hx.block _ hz1).trans R1.out)
    have s2 := cells_of ((hx.block _ hz2).trans R2.out)
    clear hx
    go_simp
    first | done | rfl
  simp only [Act.put, List.setIfInBounds_toArray, List.set_cons_zero, List.set_cons_succ]
  refine wpCalm_yes ?_ ?_ (fun x hx => ?_) ?_
  rotate_left
  · rfl
  · have s0 := cells_of ((hx.block _ hz0).trans R0.out)
    have s1 := cells_of ((hx.block _ hz1).trans R1.out)
    have s2 := cells_of ((hx.block _ hz2).trans R2.out)
    clear hx
    go_simp
    first | done | rfl
  simp only [Act.put, List.setIfInBounds_toArray, List.set_cons_zero, List.set_cons_succ]
  refine wpCalm_yes ?_ ?_ (fun x hx => ?_) ?_
  rotate_left
  · rfl
  · have s0 := cells_of ((hx.block _ hz0).trans R0.out)
    have s1 := cells_of ((hx.block _ hz1).trans R1.out)
    have s2 := cells_of ((hx.block _ hz2).trans R2.out)
    clear hx
    go_simp
    first | done | rfl
  simp only [Act.put, List.setIfInBounds_toArray, List.set_cons_zero, List.set_cons_succ]
  refine wpCalm_yes ?_ ?_ (fun x hx => ?_) ?_
  rotate_left
  · rfl
  · have s0 := cells_of ((hx.block _ hz0).trans R0.out)
    have s1 := cells_of ((hx.block _ hz1).trans R1.out)
    have s2 := cells_of ((hx.block _ hz2).trans R2.out)
    clear hx
    go_simp
    (have q := lower_any a lv x a0 a1 l0 l1; exact q)
  simp only [Act.put, List.setIfInBounds_toArray, List.set_cons_zero, List.set_cons_succ]
  refine wpCalm_yes ?_ ?_ (fun x hx => ?_) ?_
  rotate_left
  · rfl
  · have s0 := cells_of ((hx.block _ hz0).trans R0.out)
    have s1 := cells_of ((hx.block _ hz1).trans R1.out)
    have s2 := cells_of ((hx.block _ hz2).trans R2.out)
    clear hx
    go_simp
    first | done | rfl
  simp only [Act.put, List.setIfInBounds_toArray, List.set_cons_zero, List.set_cons_succ]
  refine wpCalm_yes ?_ ?_ (fun x hx => ?_) ?_
  rotate_left
  · rfl
  · have s0 := cells_of ((hx.block _ hz0).trans R0.out)
    have s1 := cells_of ((hx.block _ hz1).trans R1.out)
    have s2 := cells_of ((hx.block _ hz2).trans R2.out)
    clear hx
    go_simp
    first | done | rfl
  simp only [Act.put, List.setIfInBounds_toArray, List.set_cons_zero, List.set_cons_succ]
  refine wpCalm_yes ?_ ?_ (fun x hx => ?_) ?_
  rotate_left
  · rfl
  · have s0 := cells_of ((hx.block _ hz0).trans R0.out)
    have s1 := cells_of ((hx.block _ hz1).trans R1.out)
    have s2 := cells_of ((hx.block _ hz2).trans R2.out)
    clear hx
    go_simp
    first | done | rfl
  simp only [Act.put, List.setIfInBounds_toArray, List.set_cons_zero, List.set_cons_succ]
  refine wpCalm_yes ?_ ?_ (fun x hx => ?_) ?_
  rotate_left
  · rfl
  · have s0 := cells_of ((hx.block _ hz0).trans R0.out)
    have s1 := cells_of ((hx.block _ hz1).trans R1.out)
    have s2 := cells_of ((hx.block _ hz2).trans R2.out)
    clear hx
    go_simp
    first | done | rfl
  simp only [Act.put, List.setIfInBounds_toArray, List.set_cons_zero, List.set_cons_succ]
  refine wpCalm_yes ?_ ?_ (fun x hx => ?_) ?_
  rotate_left
  · rfl
  · have s0 := cells_of ((hx.block _ hz0).trans R0.out)
    have s1 := cells_of ((hx.block _ hz1).trans R1.out)
    have s2 := cells_of ((hx.block _ hz2).trans R2.out)
    clear hx
    go_simp
    first | done | rfl
  simp only [Act.put, List.setIfInBounds_toArray, List.set_cons_zero, List.set_cons_succ]
  refine wpCalm_yes ?_ ?_ (fun x hx => ?_) ?_
  rotate_left
  · rfl
  · have s0 := cells_of ((hx.block _ hz0).trans R0.out)
    have s1 := cells_of ((hx.block _ hz1).trans R1.out)
    have s2 := cells_of ((hx.block _ hz2).trans R2.out)
    clear hx
    go_simp
    (have q := lower_any b hv x b0 b1 h0 h1; exact q)
  simp only [Act.put, List.setIfInBounds_toArray, List.set_cons_zero, List.set_cons_succ]
  refine wpCalm_yes ?_ ?_ (fun x hx => ?_) ?_
  rotate_left
  · rfl
  · have s0 := cells_of ((hx.block _ hz0).trans R0.out)
    have s1 := cells_of ((hx.block _ hz1).trans R1.out)
    have s2 := cells_of ((hx.block _ hz2).trans R2.out)
    clear hx
    go_simp
    first | done | rfl
  simp only [Act.put, List.setIfInBounds_toArray, List.set_cons_zero, List.set_cons_succ]
  refine wpCalm_yes ?_ ?_ (fun x hx => ?_) ?_
  rotate_left
  · rfl
  · have s0 := cells_of ((hx.block _ hz0).trans R0.out)
    have s1 := cells_of ((hx.block _ hz1).trans R1.out)
    have s2 := cells_of ((hx.block _ hz2).trans R2.out)
    clear hx
    go_simp
    first | done | rfl
  simp only [Act.put, List.setIfInBounds_toArray, List.set_cons_zero, List.set_cons_succ]
  refine wpCalm_yes ?_ ?_ (fun x hx => ?_) ?_
  rotate_left
  · rfl
  · have s0 := cells_of ((hx.block _ hz0).trans R0.out)
    have s1 := cells_of ((hx.block _ hz1).trans R1.out)
    have s2 := cells_of ((hx.block _ hz2).trans R2.out)
    clear hx
    go_simp
    first | done | rfl
  simp only [Act.put, List.setIfInBounds_toArray, List.set_cons_zero, List.set_cons_succ]
  refine wpCalm_yes ?_ ?_ (fun x hx => ?_) ?_
  rotate_left
  · rfl
  · have s0 := cells_of ((hx.block _ hz0).trans R0.out)
    have s1 := cells_of ((hx.block _ hz1).trans R1.out)
    have s2 := cells_of ((hx.block _ hz2).trans R2.out)
    clear hx
    go_simp
    first | done | rfl
  simp only [Act.put, List.setIfInBounds_toArray, List.set_cons_zero, List.set_cons_succ]
  refine wpCalm_yes ?_ ?_ (fun x hx => ?_) ?_
  rotate_left
  · rfl
  · have s0 := cells_of ((hx.block _ hz0).trans R0.out)
    have s1 := cells_of ((hx.block _ hz1).trans R1.out)
    have s2 := cells_of ((hx.block _ hz2).trans R2.out)
    clear hx
    go_simp
    first | done | rfl
  simp only [Act.put, List.setIfInBounds_toArray, List.set_cons_zero, List.set_cons_succ]
  refine wpCalm_yes ?_ ?_ (fun x hx => ?_) ?_
  rotate_left
  · rfl
  · have s0 := cells_of ((hx.block _ hz0).trans R0.out)
    have s1 := cells_of ((hx.block _ hz1).trans R1.out)
    have s2 := cells_of ((hx.block _ hz2).trans R2.out)
    clear hx
    go_simp
    (have q := eight_any (ti % 2 == 1) x; exact q)
  simp only [Act.put, List.setIfInBounds_toArray, List.set_cons_zero, List.set_cons_succ]
  refine wpCalm_yes ?_ ?_ (fun x hx => ?_) ?_
  rotate_left
  · rfl
  · have s0 := cells_of ((hx.block _ hz0).trans R0.out)
    have s1 := cells_of ((hx.block _ hz1).trans R1.out)
    have s2 := cells_of ((hx.block _ hz2).trans R2.out)
    clear hx
    go_simp
    (have q := lower_any c _ x c0 c1 p0 p1; exact q)
  simp only [Act.put, List.setIfInBounds_toArray, List.set_cons_zero, List.set_cons_succ]
  refine wpCalm_yes ?_ ?_ (fun x hx => ?_) ?_
  rotate_left
  · rfl
  · have s0 := cells_of ((hx.block _ hz0).trans R0.out)
    have s1 := cells_of ((hx.block _ hz1).trans R1.out)
    have s2 := cells_of ((hx.block _ hz2).trans R2.out)
    clear hx
    go_simp
    first | done | rfl
  simp only [Act.put, List.setIfInBounds_toArray, List.set_cons_zero, List.set_cons_succ]
  refine wpCalm_yes ?_ ?_ (fun x hx => ?_) ?_
  rotate_left
  · rfl
  · have s0 := cells_of ((hx.block _ hz0).trans R0.out)
    have s1 := cells_of ((hx.block _ hz1).trans R1.out)
    have s2 := cells_of ((hx.block _ hz2).trans R2.out)
    clear hx
    go_simp
    first | done | rfl
  simp only [Act.put, List.setIfInBounds_toArray, List.set_cons_zero, List.set_cons_succ]
  refine wpCalm_yes ?_ ?_ (fun x hx => ?_) ?_
  rotate_left
  · rfl
  · have s0 := cells_of ((hx.block _ hz0).trans R0.out)
    have s1 := cells_of ((hx.block _ hz1).trans R1.out)
    have s2 := cells_of ((hx.block _ hz2).trans R2.out)
    clear hx
    go_simp
    first | done | rfl
  simp only [Act.put, List.setIfInBounds_toArray, List.set_cons_zero, List.set_cons_succ]
  refine wpCalm_yes ?_ ?_ (fun x hx => ?_) ?_
  rotate_left
  · rfl
  · have s0 := cells_of ((hx.block _ hz0).trans R0.out)
    have s1 := cells_of ((hx.block _ hz1).trans R1.out)
    have s2 := cells_of ((hx.block _ hz2).trans R2.out)
    clear hx
    go_simp
    first | done | rfl
  simp only [Act.put, List.setIfInBounds_toArray, List.set_cons_zero, List.set_cons_succ]
  refine wpCalm_yes ?_ ?_ (fun x hx => ?_) ?_
  rotate_left
  · rfl
  · have s0 := cells_of ((hx.block _ hz0).trans R0.out)
    have s1 := cells_of ((hx.block _ hz1).trans R1.out)
    have s2 := cells_of ((hx.block _ hz2).trans R2.out)
    clear hx
    go_simp
    first | done | rfl
  simp only [Act.put, List.setIfInBounds_toArray, List.set_cons_zero, List.set_cons_succ]
  refine wpCalm_yes ?_ ?_ (fun x hx => ?_) ?_
  rotate_left
  · rfl
  · have s0 := cells_of ((hx.block _ hz0).trans R0.out)
    have s1 := cells_of ((hx.block _ hz1).trans R1.out)
    have s2 := cells_of ((hx.block _ hz2).trans R2.out)
    clear hx
    go_simp
    first | done | rfl
  simp only [Act.put, List.setIfInBounds_toArray, List.set_cons_zero, List.set_cons_succ]
  refine wpCalm_yes ?_ ?_ (fun x hx => ?_) ?_
  rotate_left
  · rfl
  · have s0 := cells_of ((hx.block _ hz0).trans R0.out)
    have s1 := cells_of ((hx.block _ hz1).trans R1.out)
    have s2 := cells_of ((hx.block _ hz2).trans R2.out)
    clear hx
    go_simp
    (have q := eight_any (ti / 2 % 2 == 1) x; exact q)
  simp only [Act.put, List.setIfInBounds_toArray, List.set_cons_zero, List.set_cons_succ]
  refine wpCalm_yes ?_ ?_ (fun x hx => ?_) ?_
  rotate_left
  · rfl
  · have s0 := cells_of ((hx.block _ hz0).trans R0.out)
    have s1 := cells_of ((hx.block _ hz1).trans R1.out)
    have s2 := cells_of ((hx.block _ hz2).trans R2.out)
    clear hx
    go_simp
    (have q := lower_any d _ x d0 d1 q0 q1; exact q)
  simp only [Act.put, List.setIfInBounds_toArray, List.set_cons_zero, List.set_cons_succ]
  refine wpCalm_yes ?_ ?_ (fun x hx => ?_) ?_
  rotate_left
  · rfl
  · have s0 := cells_of ((hx.block _ hz0).trans R0.out)
    have s1 := cells_of ((hx.block _ hz1).trans R1.out)
    have s2 := cells_of ((hx.block _ hz2).trans R2.out)
    clear hx
    go_simp
    first | done | rfl
  simp only [Act.put, List.setIfInBounds_toArray, List.set_cons_zero, List.set_cons_succ]
  refine wpCalm_yes ?_ ?_ (fun x hx => ?_) ?_
  rotate_left
  · rfl
  · have s0 := cells_of ((hx.block _ hz0).trans R0.out)
    have s1 := cells_of ((hx.block _ hz1).trans R1.out)
    have s2 := cells_of ((hx.block _ hz2).trans R2.out)
    clear hx
    go_simp
    first | done | rfl
  simp only [Act.put, List.setIfInBounds_toArray, List.set_cons_zero, List.set_cons_succ]
  refine wpCalm_yes ?_ ?_ (fun x hx => ?_) ?_
  rotate_left
  · rfl
  · have s0 := cells_of ((hx.block _ hz0).trans R0.out)
    have s1 := cells_of ((hx.block _ hz1).trans R1.out)
    have s2 := cells_of ((hx.block _ hz2).trans R2.out)
    clear hx
    go_simp
    first | done | rfl
  simp only [Act.put, List.setIfInBounds_toArray, List.set_cons_zero, List.set_cons_succ]
  refine wpCalm_yes ?_ ?_ (fun x hx => ?_) ?_
  rotate_left
  · rfl
  · have s0 := cells_of ((hx.block _ hz0).trans R0.out)
    have s1 := cells_of ((hx.block _ hz1).trans R1.out)
    have s2 := cells_of ((hx.block _ hz2).trans R2.out)
    clear hx
    go_simp
    first | done | rfl
  simp only [Act.put, List.setIfInBounds_toArray, List.set_cons_zero, List.set_cons_succ]
  refine wpCalm_yes ?_ ?_ (fun x hx => ?_) ?_
  rotate_left
  · rfl
  · have s0 := cells_of ((hx.block _ hz0).trans R0.out)
    have s1 := cells_of ((hx.block _ hz1).trans R1.out)
    have s2 := cells_of ((hx.block _ hz2).trans R2.out)
    clear hx
    go_simp
    first | done | rfl
  simp only [Act.put, List.setIfInBounds_toArray, List.set_cons_zero, List.set_cons_succ]
  refine wpCalm_yes ?_ ?_ (fun x hx => ?_) ?_
  rotate_left
  · rfl
  · have s0 := cells_of ((hx.block _ hz0).trans R0.out)
    have s1 := cells_of ((hx.block _ hz1).trans R1.out)
    have s2 := cells_of ((hx.block _ hz2).trans R2.out)
    clear hx
    go_simp
    first | done | rfl
  simp only [Act.put, List.setIfInBounds_toArray, List.set_cons_zero, List.set_cons_succ]
  refine wpCalm_yes ?_ ?_ (fun x hx => ?_) ?_
  rotate_left
  · rfl
  · have s0 := cells_of ((hx.block _ hz0).trans R0.out)
    have s1 := cells_of ((hx.block _ hz1).trans R1.out)
    have s2 := cells_of ((hx.block _ hz2).trans R2.out)
    clear hx
    go_simp
    first | done | rfl
  simp only [Act.put, List.setIfInBounds_toArray, List.set_cons_zero, List.set_cons_succ]
  refine wpCalm_yes ?_ ?_ (fun x hx => ?_) ?_
  rotate_left
  · rfl
  · have s0 := cells_of ((hx.block _ hz0).trans R0.out)
    have s1 := cells_of ((hx.block _ hz1).trans R1.out)
    have s2 := cells_of ((hx.block _ hz2).trans R2.out)
    clear hx
    go_simp
    first | done | rfl
  simp only [Act.put, List.setIfInBounds_toArray, List.set_cons_zero, List.set_cons_succ]
  refine wpCalm_no ?_ ?_
  · rfl
  simp only [Act.put, List.setIfInBounds_toArray, List.set_cons_zero, List.set_cons_succ]
  refine wpCalm_no ?_ ?_
  · rfl
  simp only [Act.put, List.setIfInBounds_toArray, List.set_cons_zero, List.set_cons_succ]
  refine wpCalm_yes ?_ ?_ (fun x hx => ?_) ?_
  rotate_left
  · rfl
  · have s0 := cells_of ((hx.block _ hz0).trans R0.out)
    have s1 := cells_of ((hx.block _ hz1).trans R1.out)
    have s2 := cells_of ((hx.block _ hz2).trans R2.out)
    clear hx
    go_simp
    first | done | rfl
  simp only [Act.put, List.setIfInBounds_toArray, List.set_cons_zero, List.set_cons_succ]
  refine wpCalm_yes ?_ ?_ (fun x hx => ?_) ?_
  rotate_left
  · rfl
  · have s0 := cells_of ((hx.block _ hz0).trans R0.out)
    have s1 := cells_of ((hx.block _ hz1).trans R1.out)
    have s2 := cells_of ((hx.block _ hz2).trans R2.out)
    clear hx
    go_simp
    (have q := eight_any true x; exact q)
  simp only [Act.put, List.setIfInBounds_toArray, List.set_cons_zero, List.set_cons_succ]
  refine wpCalm_yes ?_ ?_ (fun x hx => ?_) ?_
  rotate_left
  · rfl
  · have s0 := cells_of ((hx.block _ hz0).trans R0.out)
    have s1 := cells_of ((hx.block _ hz1).trans R1.out)
    have s2 := cells_of ((hx.block _ hz2).trans R2.out)
    clear hx
    go_simp
    (have q := lower_any e _ x e0 e1 r0 r1; exact q)
  simp only [Act.put, List.setIfInBounds_toArray, List.set_cons_zero, List.set_cons_succ]
  refine wpCalm_yes ?_ ?_ (fun x hx => ?_) ?_
  rotate_left
  · rfl
  · have s0 := cells_of ((hx.block _ hz0).trans R0.out)
    have s1 := cells_of ((hx.block _ hz1).trans R1.out)
    have s2 := cells_of ((hx.block _ hz2).trans R2.out)
    clear hx
    go_simp
    first | done | rfl
  simp only [Act.put, List.setIfInBounds_toArray, List.set_cons_zero, List.set_cons_succ]
  refine wpCalm_end ?_
  refine wpSeq_yes rfl (wp_store_row 24 (.tmp 10) (.tmp 51) rfl (w.heap.size + 1 + 1 + 1) _ rfl rfl 24 _ R3.out (by kernel_rfl) rfl (one5 _ _ _ _ _) ⟨Below.setRow (Below.refl _ _).drew (Nat.le_refl _) _, wpSeq_end ?_⟩)
  go_wp2
  exact bodyPost_ret (results_cell_row (p := 10) (ty := 24) rfl _ _ (w.heap.size + 1 + 1 + 1) 24 _ (0, 0) _ rfl (setRow_heap _ _ _ _ _ _ R3.out) Try.underlying24 rfl (by kernel_rfl)) rfl ⟨rfl, Below.setRow HB.out.drew (by omega) _⟩
set_option maxHeartbeats 4000000 in
theorem rload_ff (a b c d e lv hv ti : Int) (hs : Bool) (w : World) (a0 : 0 ≤ a) (a1 : a ≤ 65535) (b0 : 0 ≤ b) (b1 : b ≤ 65535) (c0 : 0 ≤ c) (c1 : c ≤ 65535) (d0 : 0 ≤ d) (d1 : d ≤ 65535) (e0 : 0 ≤ e) (e1 : e ≤ 65535) (l0 : 0 ≤ lv) (l1 : lv ≤ 255) (h0 : 0 ≤ hv) (h1 : hv ≤ 255) (t0 : 0 ≤ ti) (t1 : ti ≤ 255) :
    Calls Try.prog 18 #[.agg #[.int .u16 a, .int .u16 b, .int .u16 c, .int .u16 d, .int .u16 e], .agg #[.int .u8 lv, .bool false], .agg #[.int .u8 hv, .bool hs], .int .u8 ti, .bool false] w fun r w' => r = .returned (.agg #[.int .u16 (ld a lv), .int .u16 (ld b hv), .int .u16 (ld c (spr (ti % 2 == 1))), .int .u16 (ld d (spr (ti / 2 % 2 == 1))), .int .u16 (ld e (spr hs))]) ∧ Below w.heap.size w w' := by
  obtain ⟨p0, p1⟩ := spr_bd (ti % 2 == 1)
  obtain ⟨q0, q1⟩ := spr_bd (ti / 2 % 2 == 1)
  obtain ⟨r0, r1⟩ := spr_bd hs
  have hq2 : IntKind.u8.wrap (ti.tdiv 2) = ti / 2 := by rw [Int.tdiv_eq_ediv_of_nonneg t0, IntWalk.u8_in _ (by omega)]
  have wl : IntKind.i64.wrap lv = lv := IntWalk.i64_in _ (by omega)
  have wh : IntKind.i64.wrap hv = hv := IntWalk.i64_in _ (by omega)
  have m1 : ti.tmod 2 = ti % 2 := Int.tmod_eq_emod_of_nonneg t0
  have m2 : (ti / 2).tmod 2 = ti / 2 % 2 := Int.tmod_eq_emod_of_nonneg (by omega)
  go_enter Try.func18, Try.ntmps18
  go_wp2_with fail
  generalize hW : World.alloc _ _ = W
  have k0 : W.heap[w.heap.size]? = some (.cells #[.int .u16 a, .int .u16 b, .int .u16 c, .int .u16 d, .int .u16 e] 24 (0, 0)) := by rw [← hW]; exact row_at3 _ _ _ _ _
  have k1 : W.heap[w.heap.size + 1]? = some (.cells #[.int .u8 lv, .bool false] 26 (0, 0)) := by rw [← hW]; exact row_at2 _ _ _ _ _ (by rw [World.size_alloc])
  have k2 : W.heap[w.heap.size + 1 + 1]? = some (.cells #[.int .u8 hv, .bool hs] 26 (0, 0)) := by rw [← hW]; exact row_at1 _ _ _ _ (by rw [World.size_alloc, World.size_alloc])
  have k3 : W.heap[w.heap.size + 1 + 1 + 1]? = some (.cells #[.int .u16 0, .int .u16 0, .int .u16 0, .int .u16 0, .int .u16 0] 24 (0, 0)) := by rw [← hW]; exact row_at0 _ _ _ (by rw [World.size_alloc, World.size_alloc, World.size_alloc])
  have hb : Below w.heap.size w W := by rw [← hW]; go_grown
  have hz0 : w.heap.size < w.heap.size + 1 + 1 + 1 := by omega
  have hz1 : w.heap.size + 1 < w.heap.size + 1 + 1 + 1 := by omega
  have hz2 : w.heap.size + 1 + 1 < w.heap.size + 1 + 1 + 1 := by omega
  have R0 := Lib.hid k0
  have R1 := Lib.hid k1
  have R2 := Lib.hid k2
  have R3 := Lib.hid k3
  have HB := Lib.hid hb
  clear hW k0 k1 k2 k3 hb
  refine wp_region_calm 41 (by kernel_rfl) (by kernel_rfl) (fun _ _ d _ _ h => by cases d <;> exact h) (S := fun x => Below (w.heap.size + 1 + 1 + 1) W x) ((Below.refl _ _).drew) ?_
  simp only [List.take_succ_cons, List.take_zero, List.drop_succ_cons, List.drop_zero]
  refine wpCalm_yes ?_ ?_ (fun x hx => ?_) ?_
  rotate_left
  · rfl
  · have s0 := cells_of ((hx.block _ hz0).trans R0.out)
    have s1 := cells_of ((hx.block _ hz1).trans R1.out)
    have s2 := cells_of ((hx.block _ hz2).trans R2.out)
    clear hx
    go_simp
    first | done | rfl
  simp only [Act.put, List.setIfInBounds_toArray, List.set_cons_zero, List.set_cons_succ]
  refine wpCalm_yes ?_ ?_ (fun x hx => ?_) ?_
  rotate_left
  · rfl
  · have s0 := cells_of ((hx.block _ hz0).trans R0.out)
    have s1 := cells_of ((hx.block _ hz1).trans R1.out)
    have s2 := cells_of ((hx.block _ hz2).trans R2.out)
    clear hx
    go_simp
    first | done | rfl
  simp only [Act.put, List.setIfInBounds_toArray, List.set_cons_zero, List.set_cons_succ]
  refine wpCalm_yes ?_ ?_ (fun x hx => ?_) ?_
  rotate_left
  · rfl
  · have s0 := cells_of ((hx.block _ hz0).trans R0.out)
    have s1 := cells_of ((hx.block _ hz1).trans R1.out)
    have s2 := cells_of ((hx.block _ hz2).trans R2.out)
    clear hx
    go_simp
    first | done | rfl
  simp only [Act.put, List.setIfInBounds_toArray, List.set_cons_zero, List.set_cons_succ]
  refine wpCalm_yes ?_ ?_ (fun x hx => ?_) ?_
  rotate_left
  · rfl
  · have s0 := cells_of ((hx.block _ hz0).trans R0.out)
    have s1 := cells_of ((hx.block _ hz1).trans R1.out)
    have s2 := cells_of ((hx.block _ hz2).trans R2.out)
    clear hx
    go_simp
    first | done | rfl
  simp only [Act.put, List.setIfInBounds_toArray, List.set_cons_zero, List.set_cons_succ]
  refine wpCalm_yes ?_ ?_ (fun x hx => ?_) ?_
  rotate_left
  · rfl
  · have s0 := cells_of ((hx.block _ hz0).trans R0.out)
    have s1 := cells_of ((hx.block _ hz1).trans R1.out)
    have s2 := cells_of ((hx.block _ hz2).trans R2.out)
    clear hx
    go_simp
    first | done | rfl
  simp only [Act.put, List.setIfInBounds_toArray, List.set_cons_zero, List.set_cons_succ]
  refine wpCalm_yes ?_ ?_ (fun x hx => ?_) ?_
  rotate_left
  · rfl
  · have s0 := cells_of ((hx.block _ hz0).trans R0.out)
    have s1 := cells_of ((hx.block _ hz1).trans R1.out)
    have s2 := cells_of ((hx.block _ hz2).trans R2.out)
    clear hx
    go_simp
    (have q := lower_any a lv x a0 a1 l0 l1; exact q)
  simp only [Act.put, List.setIfInBounds_toArray, List.set_cons_zero, List.set_cons_succ]
  refine wpCalm_yes ?_ ?_ (fun x hx => ?_) ?_
  rotate_left
  · rfl
  · have s0 := cells_of ((hx.block _ hz0).trans R0.out)
    have s1 := cells_of ((hx.block _ hz1).trans R1.out)
    have s2 := cells_of ((hx.block _ hz2).trans R2.out)
    clear hx
    go_simp
    first | done | rfl
  simp only [Act.put, List.setIfInBounds_toArray, List.set_cons_zero, List.set_cons_succ]
  refine wpCalm_yes ?_ ?_ (fun x hx => ?_) ?_
  rotate_left
  · rfl
  · have s0 := cells_of ((hx.block _ hz0).trans R0.out)
    have s1 := cells_of ((hx.block _ hz1).trans R1.out)
    have s2 := cells_of ((hx.block _ hz2).trans R2.out)
    clear hx
    go_simp
    first | done | rfl
  simp only [Act.put, List.setIfInBounds_toArray, List.set_cons_zero, List.set_cons_succ]
  refine wpCalm_yes ?_ ?_ (fun x hx => ?_) ?_
  rotate_left
  · rfl
  · have s0 := cells_of ((hx.block _ hz0).trans R0.out)
    have s1 := cells_of ((hx.block _ hz1).trans R1.out)
    have s2 := cells_of ((hx.block _ hz2).trans R2.out)
    clear hx
    go_simp
    first | done | rfl
  simp only [Act.put, List.setIfInBounds_toArray, List.set_cons_zero, List.set_cons_succ]
  refine wpCalm_yes ?_ ?_ (fun x hx => ?_) ?_
  rotate_left
  · rfl
  · have s0 := cells_of ((hx.block _ hz0).trans R0.out)
    have s1 := cells_of ((hx.block _ hz1).trans R1.out)
    have s2 := cells_of ((hx.block _ hz2).trans R2.out)
    clear hx
    go_simp
    first | done | rfl
  simp only [Act.put, List.setIfInBounds_toArray, List.set_cons_zero, List.set_cons_succ]
  refine wpCalm_yes ?_ ?_ (fun x hx => ?_) ?_
  rotate_left
  · rfl
  · have s0 := cells_of ((hx.block _ hz0).trans R0.out)
    have s1 := cells_of ((hx.block _ hz1).trans R1.out)
    have s2 := cells_of ((hx.block _ hz2).trans R2.out)
    clear hx
    go_simp
    first | done | rfl
  simp only [Act.put, List.setIfInBounds_toArray, List.set_cons_zero, List.set_cons_succ]
  refine wpCalm_yes ?_ ?_ (fun x hx => ?_) ?_
  rotate_left
  · rfl
  · have s0 := cells_of ((hx.block _ hz0).trans R0.out)
    have s1 := cells_of ((hx.block _ hz1).trans R1.out)
    have s2 := cells_of ((hx.block _ hz2).trans R2.out)
    clear hx
    go_simp
    (have q := lower_any b hv x b0 b1 h0 h1; exact q)
  simp only [Act.put, List.setIfInBounds_toArray, List.set_cons_zero, List.set_cons_succ]
  refine wpCalm_yes ?_ ?_ (fun x hx => ?_) ?_
  rotate_left
  · rfl
  · have s0 := cells_of ((hx.block _ hz0).trans R0.out)
    have s1 := cells_of ((hx.block _ hz1).trans R1.out)
    have s2 := cells_of ((hx.block _ hz2).trans R2.out)
    clear hx
    go_simp
    first | done | rfl
  simp only [Act.put, List.setIfInBounds_toArray, List.set_cons_zero, List.set_cons_succ]
  refine wpCalm_yes ?_ ?_ (fun x hx => ?_) ?_
  rotate_left
  · rfl
  · have s0 := cells_of ((hx.block _ hz0).trans R0.out)
    have s1 := cells_of ((hx.block _ hz1).trans R1.out)
    have s2 := cells_of ((hx.block _ hz2).trans R2.out)
    clear hx
    go_simp
    first | done | rfl
  simp only [Act.put, List.setIfInBounds_toArray, List.set_cons_zero, List.set_cons_succ]
  refine wpCalm_yes ?_ ?_ (fun x hx => ?_) ?_
  rotate_left
  · rfl
  · have s0 := cells_of ((hx.block _ hz0).trans R0.out)
    have s1 := cells_of ((hx.block _ hz1).trans R1.out)
    have s2 := cells_of ((hx.block _ hz2).trans R2.out)
    clear hx
    go_simp
    first | done | rfl
  simp only [Act.put, List.setIfInBounds_toArray, List.set_cons_zero, List.set_cons_succ]
  refine wpCalm_yes ?_ ?_ (fun x hx => ?_) ?_
  rotate_left
  · rfl
  · have s0 := cells_of ((hx.block _ hz0).trans R0.out)
    have s1 := cells_of ((hx.block _ hz1).trans R1.out)
    have s2 := cells_of ((hx.block _ hz2).trans R2.out)
    clear hx
    go_simp
    first | done | rfl
  simp only [Act.put, List.setIfInBounds_toArray, List.set_cons_zero, List.set_cons_succ]
  refine wpCalm_yes ?_ ?_ (fun x hx => ?_) ?_
  rotate_left
  · rfl
  · have s0 := cells_of ((hx.block _ hz0).trans R0.out)
    have s1 := cells_of ((hx.block _ hz1).trans R1.out)
    have s2 := cells_of ((hx.block _ hz2).trans R2.out)
    clear hx
    go_simp
    first | done | rfl
  simp only [Act.put, List.setIfInBounds_toArray, List.set_cons_zero, List.set_cons_succ]
  refine wpCalm_yes ?_ ?_ (fun x hx => ?_) ?_
  rotate_left
  · rfl
  · have s0 := cells_of ((hx.block _ hz0).trans R0.out)
    have s1 := cells_of ((hx.block _ hz1).trans R1.out)
    have s2 := cells_of ((hx.block _ hz2).trans R2.out)
    clear hx
    go_simp
    (have q := eight_any (ti % 2 == 1) x; exact q)
  simp only [Act.put, List.setIfInBounds_toArray, List.set_cons_zero, List.set_cons_succ]
  refine wpCalm_yes ?_ ?_ (fun x hx => ?_) ?_
  rotate_left
  · rfl
  · have s0 := cells_of ((hx.block _ hz0).trans R0.out)
    have s1 := cells_of ((hx.block _ hz1).trans R1.out)
    have s2 := cells_of ((hx.block _ hz2).trans R2.out)
    clear hx
    go_simp
    (have q := lower_any c _ x c0 c1 p0 p1; exact q)
  simp only [Act.put, List.setIfInBounds_toArray, List.set_cons_zero, List.set_cons_succ]
  refine wpCalm_yes ?_ ?_ (fun x hx => ?_) ?_
  rotate_left
  · rfl
  · have s0 := cells_of ((hx.block _ hz0).trans R0.out)
    have s1 := cells_of ((hx.block _ hz1).trans R1.out)
    have s2 := cells_of ((hx.block _ hz2).trans R2.out)
    clear hx
    go_simp
    first | done | rfl
  simp only [Act.put, List.setIfInBounds_toArray, List.set_cons_zero, List.set_cons_succ]
  refine wpCalm_yes ?_ ?_ (fun x hx => ?_) ?_
  rotate_left
  · rfl
  · have s0 := cells_of ((hx.block _ hz0).trans R0.out)
    have s1 := cells_of ((hx.block _ hz1).trans R1.out)
    have s2 := cells_of ((hx.block _ hz2).trans R2.out)
    clear hx
    go_simp
    first | done | rfl
  simp only [Act.put, List.setIfInBounds_toArray, List.set_cons_zero, List.set_cons_succ]
  refine wpCalm_yes ?_ ?_ (fun x hx => ?_) ?_
  rotate_left
  · rfl
  · have s0 := cells_of ((hx.block _ hz0).trans R0.out)
    have s1 := cells_of ((hx.block _ hz1).trans R1.out)
    have s2 := cells_of ((hx.block _ hz2).trans R2.out)
    clear hx
    go_simp
    first | done | rfl
  simp only [Act.put, List.setIfInBounds_toArray, List.set_cons_zero, List.set_cons_succ]
  refine wpCalm_yes ?_ ?_ (fun x hx => ?_) ?_
  rotate_left
  · rfl
  · have s0 := cells_of ((hx.block _ hz0).trans R0.out)
    have s1 := cells_of ((hx.block _ hz1).trans R1.out)
    have s2 := cells_of ((hx.block _ hz2).trans R2.out)
    clear hx
    go_simp
    first | done | rfl
  simp only [Act.put, List.setIfInBounds_toArray, List.set_cons_zero, List.set_cons_succ]
  refine wpCalm_yes ?_ ?_ (fun x hx => ?_) ?_
  rotate_left
  · rfl
  · have s0 := cells_of ((hx.block _ hz0).trans R0.out)
    have s1 := cells_of ((hx.block _ hz1).trans R1.out)
    have s2 := cells_of ((hx.block _ hz2).trans R2.out)
    clear hx
    go_simp
    first | done | rfl
  simp only [Act.put, List.setIfInBounds_toArray, List.set_cons_zero, List.set_cons_succ]
  refine wpCalm_yes ?_ ?_ (fun x hx => ?_) ?_
  rotate_left
  · rfl
  · have s0 := cells_of ((hx.block _ hz0).trans R0.out)
    have s1 := cells_of ((hx.block _ hz1).trans R1.out)
    have s2 := cells_of ((hx.block _ hz2).trans R2.out)
    clear hx
    go_simp
    first | done | rfl
  simp only [Act.put, List.setIfInBounds_toArray, List.set_cons_zero, List.set_cons_succ]
  refine wpCalm_yes ?_ ?_ (fun x hx => ?_) ?_
  rotate_left
  · rfl
  · have s0 := cells_of ((hx.block _ hz0).trans R0.out)
    have s1 := cells_of ((hx.block _ hz1).trans R1.out)
    have s2 := cells_of ((hx.block _ hz2).trans R2.out)
    clear hx
    go_simp
    (have q := eight_any (ti / 2 % 2 == 1) x; exact q)
  simp only [Act.put, List.setIfInBounds_toArray, List.set_cons_zero, List.set_cons_succ]
  refine wpCalm_yes ?_ ?_ (fun x hx => ?_) ?_
  rotate_left
  · rfl
  · have s0 := cells_of ((hx.block _ hz0).trans R0.out)
    have s1 := cells_of ((hx.block _ hz1).trans R1.out)
    have s2 := cells_of ((hx.block _ hz2).trans R2.out)
    clear hx
    go_simp
    (have q := lower_any d _ x d0 d1 q0 q1; exact q)
  simp only [Act.put, List.setIfInBounds_toArray, List.set_cons_zero, List.set_cons_succ]
  refine wpCalm_yes ?_ ?_ (fun x hx => ?_) ?_
  rotate_left
  · rfl
  · have s0 := cells_of ((hx.block _ hz0).trans R0.out)
    have s1 := cells_of ((hx.block _ hz1).trans R1.out)
    have s2 := cells_of ((hx.block _ hz2).trans R2.out)
    clear hx
    go_simp
    first | done | rfl
  simp only [Act.put, List.setIfInBounds_toArray, List.set_cons_zero, List.set_cons_succ]
  refine wpCalm_yes ?_ ?_ (fun x hx => ?_) ?_
  rotate_left
  · rfl
  · have s0 := cells_of ((hx.block _ hz0).trans R0.out)
    have s1 := cells_of ((hx.block _ hz1).trans R1.out)
    have s2 := cells_of ((hx.block _ hz2).trans R2.out)
    clear hx
    go_simp
    first | done | rfl
  simp only [Act.put, List.setIfInBounds_toArray, List.set_cons_zero, List.set_cons_succ]
  refine wpCalm_yes ?_ ?_ (fun x hx => ?_) ?_
  rotate_left
  · rfl
  · have s0 := cells_of ((hx.block _ hz0).trans R0.out)
    have s1 := cells_of ((hx.block _ hz1).trans R1.out)
    have s2 := cells_of ((hx.block _ hz2).trans R2.out)
    clear hx
    go_simp
    first | done | rfl
  simp only [Act.put, List.setIfInBounds_toArray, List.set_cons_zero, List.set_cons_succ]
  refine wpCalm_yes ?_ ?_ (fun x hx => ?_) ?_
  rotate_left
  · rfl
  · have s0 := cells_of ((hx.block _ hz0).trans R0.out)
    have s1 := cells_of ((hx.block _ hz1).trans R1.out)
    have s2 := cells_of ((hx.block _ hz2).trans R2.out)
    clear hx
    go_simp
    first | done | rfl
  simp only [Act.put, List.setIfInBounds_toArray, List.set_cons_zero, List.set_cons_succ]
  refine wpCalm_yes ?_ ?_ (fun x hx => ?_) ?_
  rotate_left
  · rfl
  · have s0 := cells_of ((hx.block _ hz0).trans R0.out)
    have s1 := cells_of ((hx.block _ hz1).trans R1.out)
    have s2 := cells_of ((hx.block _ hz2).trans R2.out)
    clear hx
    go_simp
    first | done | rfl
  simp only [Act.put, List.setIfInBounds_toArray, List.set_cons_zero, List.set_cons_succ]
  refine wpCalm_yes ?_ ?_ (fun x hx => ?_) ?_
  rotate_left
  · rfl
  · have s0 := cells_of ((hx.block _ hz0).trans R0.out)
    have s1 := cells_of ((hx.block _ hz1).trans R1.out)
    have s2 := cells_of ((hx.block _ hz2).trans R2.out)
    clear hx
    go_simp
    first | done | rfl
  simp only [Act.put, List.setIfInBounds_toArray, List.set_cons_zero, List.set_cons_succ]
  refine wpCalm_yes ?_ ?_ (fun x hx => ?_) ?_
  rotate_left
  · rfl
  · have s0 := cells_of ((hx.block _ hz0).trans R0.out)
    have s1 := cells_of ((hx.block _ hz1).trans R1.out)
    have s2 := cells_of ((hx.block _ hz2).trans R2.out)
    clear hx
    go_simp
    first | done | rfl
  simp only [Act.put, List.setIfInBounds_toArray, List.set_cons_zero, List.set_cons_succ]
  refine wpCalm_yes ?_ ?_ (fun x hx => ?_) ?_
  rotate_left
  · rfl
  · have s0 := cells_of ((hx.block _ hz0).trans R0.out)
    have s1 := cells_of ((hx.block _ hz1).trans R1.out)
    have s2 := cells_of ((hx.block _ hz2).trans R2.out)
    clear hx
    go_simp
    first | done | rfl
  simp only [Act.put, List.setIfInBounds_toArray, List.set_cons_zero, List.set_cons_succ]
  refine wpCalm_yes ?_ ?_ (fun x hx => ?_) ?_
  rotate_left
  · rfl
  · have s0 := cells_of ((hx.block _ hz0).trans R0.out)
    have s1 := cells_of ((hx.block _ hz1).trans R1.out)
    have s2 := cells_of ((hx.block _ hz2).trans R2.out)
    clear hx
    go_simp
    first | done | rfl
  simp only [Act.put, List.setIfInBounds_toArray, List.set_cons_zero, List.set_cons_succ]
  refine wpCalm_yes ?_ ?_ (fun x hx => ?_) ?_
  rotate_left
  · rfl
  · have s0 := cells_of ((hx.block _ hz0).trans R0.out)
    have s1 := cells_of ((hx.block _ hz1).trans R1.out)
    have s2 := cells_of ((hx.block _ hz2).trans R2.out)
    clear hx
    go_simp
    first | done | rfl
  simp only [Act.put, List.setIfInBounds_toArray, List.set_cons_zero, List.set_cons_succ]
  refine wpCalm_yes ?_ ?_ (fun x hx => ?_) ?_
  rotate_left
  · rfl
  · have s0 := cells_of ((hx.block _ hz0).trans R0.out)
    have s1 := cells_of ((hx.block _ hz1).trans R1.out)
    have s2 := cells_of ((hx.block _ hz2).trans R2.out)
    clear hx
    go_simp
    first | done | rfl
  simp only [Act.put, List.setIfInBounds_toArray, List.set_cons_zero, List.set_cons_succ]
  refine wpCalm_yes ?_ ?_ (fun x hx => ?_) ?_
  rotate_left
  · rfl
  · have s0 := cells_of ((hx.block _ hz0).trans R0.out)
    have s1 := cells_of ((hx.block _ hz1).trans R1.out)
    have s2 := cells_of ((hx.block _ hz2).trans R2.out)
    clear hx
    go_simp
    (have q := eight_any hs x; exact q)
  simp only [Act.put, List.setIfInBounds_toArray, List.set_cons_zero, List.set_cons_succ]
  refine wpCalm_yes ?_ ?_ (fun x hx => ?_) ?_
  rotate_left
  · rfl
  · have s0 := cells_of ((hx.block _ hz0).trans R0.out)
    have s1 := cells_of ((hx.block _ hz1).trans R1.out)
    have s2 := cells_of ((hx.block _ hz2).trans R2.out)
    clear hx
    go_simp
    (have q := lower_any e _ x e0 e1 r0 r1; exact q)
  simp only [Act.put, List.setIfInBounds_toArray, List.set_cons_zero, List.set_cons_succ]
  refine wpCalm_yes ?_ ?_ (fun x hx => ?_) ?_
  rotate_left
  · rfl
  · have s0 := cells_of ((hx.block _ hz0).trans R0.out)
    have s1 := cells_of ((hx.block _ hz1).trans R1.out)
    have s2 := cells_of ((hx.block _ hz2).trans R2.out)
    clear hx
    go_simp
    first | done | rfl
  simp only [Act.put, List.setIfInBounds_toArray, List.set_cons_zero, List.set_cons_succ]
  refine wpCalm_end ?_
  refine wpSeq_yes rfl (wp_store_row 24 (.tmp 10) (.tmp 51) rfl (w.heap.size + 1 + 1 + 1) _ rfl rfl 24 _ R3.out (by kernel_rfl) rfl (one5 _ _ _ _ _) ⟨Below.setRow (Below.refl _ _).drew (Nat.le_refl _) _, wpSeq_end ?_⟩)
  go_wp2
  exact bodyPost_ret (results_cell_row (p := 10) (ty := 24) rfl _ _ (w.heap.size + 1 + 1 + 1) 24 _ (0, 0) _ rfl (setRow_heap _ _ _ _ _ _ R3.out) Try.underlying24 rfl (by kernel_rfl)) rfl ⟨rfl, Below.setRow HB.out.drew (by omega) _⟩
theorem rload_any (a b c d e lv hv ti : Int) (s ls hs : Bool) (w : World) (a0 : 0 ≤ a) (a1 : a ≤ 65535) (b0 : 0 ≤ b) (b1 : b ≤ 65535) (c0 : 0 ≤ c) (c1 : c ≤ 65535) (d0 : 0 ≤ d) (d1 : d ≤ 65535) (e0 : 0 ≤ e) (e1 : e ≤ 65535) (l0 : 0 ≤ lv) (l1 : lv ≤ 255) (h0 : 0 ≤ hv) (h1 : hv ≤ 255) (t0 : 0 ≤ ti) (t1 : ti ≤ 255) :
    Calls Try.prog 18 #[.agg #[.int .u16 a, .int .u16 b, .int .u16 c, .int .u16 d, .int .u16 e], .agg #[.int .u8 lv, .bool ls], .agg #[.int .u8 hv, .bool hs], .int .u8 ti, .bool s] w fun r w' => r = .returned (.agg #[.int .u16 (ld a lv), .int .u16 (ld b hv), .int .u16 (ld c (spr (ti % 2 == 1))), .int .u16 (ld d (spr (ti / 2 % 2 == 1))), .int .u16 (ld e (spr (s || ls || hs)))]) ∧ Below w.heap.size w w' := by
  cases s
  · cases ls
    · exact rload_ff a b c d e lv hv ti hs w a0 a1 b0 b1 c0 c1 d0 d1 e0 e1 l0 l1 h0 h1 t0 t1
    · exact rload_ft a b c d e lv hv ti hs w a0 a1 b0 b1 c0 c1 d0 d1 e0 e1 l0 l1 h0 h1 t0 t1
  · exact rload_t a b c d e lv hv ti ls hs w a0 a1 b0 b1 c0 c1 d0 d1 e0 e1 l0 l1 h0 h1 t0 t1
end Go.Proofs.Ytnmobjjinidmiaa
