/- The contract of package tile's Load. -/
import Derived.Test.YtnmobjjinidmiaaW
import Derived.Test.YtnmobjjinidmiaaCalm
import Derived.Deep.WholeRow
import Derived.Lib.Hide
namespace Go.Proofs.Ytnmobjjinidmiaa
open Go.ChangeShapes Go.WideShapes Go.ChangeAt Go.RowKit
theorem cell_mid (w : World) (o : Obj) (cs : Array Value) (t : TypeId) (i n : Nat) (hn : w.heap.size = n) : ((w.alloc (.cells cs t)).alloc o).cell? ⟨n, i, none⟩ = cs[i]? := by
  subst hn
  rw [World.cell?_alloc_lt _ _ _ (by rw [World.size_alloc]; exact Nat.lt_succ_self _), World.cell?_alloc_new]
theorem cell_mid2 (w : World) (o o' : Obj) (cs : Array Value) (t : TypeId) (i n : Nat) (hn : w.heap.size = n) : (((w.alloc (.cells cs t)).alloc o).alloc o').cell? ⟨n, i, none⟩ = cs[i]? := by
  rw [World.cell?_alloc_lt _ _ _ (by rw [World.size_alloc, World.size_alloc, hn]; exact Nat.lt_succ_of_lt (Nat.lt_succ_self _))]
  exact cell_mid w o cs t i n hn
theorem spread_still (b : Bool) (w : World) : Calls Try.prog 20 #[.bool b] w fun e w' => e = .returned (.int .u16 (spr b)) ∧ w' = w :=
  (spread_any b w).mono fun _ _ h => ⟨h.1, h.2.symm⟩
theorem ix42 (a b c d e : Value) (w : World) : (Instr.index 42 (.agg #[a, b, c, d, e]) (.int .i64 0)).run Try.prog w = .ok a w := by kernel_rfl
set_option maxHeartbeats 4000000 in
theorem load_t (a b c d e lv hv ti : Int) (ls hs : Bool) (w : World) (a0 : 0 ≤ a) (a1 : a ≤ 65535) (b0 : 0 ≤ b) (b1 : b ≤ 65535) (c0 : 0 ≤ c) (c1 : c ≤ 65535) (d0 : 0 ≤ d) (d1 : d ≤ 65535) (e0 : 0 ≤ e) (e1 : e ≤ 65535) (l0 : 0 ≤ lv) (l1 : lv ≤ 255) (h0 : 0 ≤ hv) (h1 : hv ≤ 255) :
    Calls Try.prog 10 #[.agg #[.int .u16 a, .int .u16 b, .int .u16 c, .int .u16 d, .int .u16 e], .agg #[.int .u8 lv, .bool ls], .agg #[.int .u8 hv, .bool hs], .int .u8 ti, .bool true] w fun r w' => r = .returned (.agg #[.int .u16 (ld a lv), .int .u16 (ld b hv), .int .u16 (ld c (spr (decide (0 < bits .and .u8 ti 1)))), .int .u16 (ld d (spr (decide (0 < bits .and .u8 ti 2)))), .int .u16 (ld e (spr true))]) ∧ Below w.heap.size w w' := by
  have j0 := ix0
  have j1 := ix1
  have j2 := ix2
  have j3 := ix3
  have j4 := ix4
  go_enter Try.func10, Try.ntmps10
  go_wp2_with fail
  generalize hW : World.alloc _ _ = W
  have f1 : W.cell? ⟨w.heap.size + 1, 0, none⟩ = some (.int .u8 lv) := by rw [← hW]; exact cell_mid2 _ _ _ _ _ 0 _ (by rw [World.size_alloc])
  have f2 : W.cell? ⟨w.heap.size + 1, 1, none⟩ = some (.bool ls) := by rw [← hW]; exact cell_mid2 _ _ _ _ _ 1 _ (by rw [World.size_alloc])
  have f3 : W.cell? ⟨w.heap.size + 1 + 1, 0, none⟩ = some (.int .u8 hv) := by rw [← hW]; exact cell_mid _ _ _ _ 0 _ (by rw [World.size_alloc, World.size_alloc])
  have f4 : W.cell? ⟨w.heap.size + 1 + 1, 1, none⟩ = some (.bool hs) := by rw [← hW]; exact cell_mid _ _ _ _ 1 _ (by rw [World.size_alloc, World.size_alloc])
  have hz : W.heap.size = w.heap.size + 4 := by rw [← hW]; simp [World.size_alloc]
  have HW := Lib.hid hW
  have HZ := Lib.hid hz
  clear hW hz
  refine wp_region_calm 25 (by kernel_rfl) (by kernel_rfl) (fun _ _ d _ _ h => by cases d <;> exact h) (S := fun x => Below W.heap.size W x) ((Below.refl _ _).drew) ?_
  simp only [List.take_succ_cons, List.take_zero, List.drop_succ_cons, List.drop_zero]
  iterate 16
    refine wpCalm_yes ?_ ?_ (fun x hx => ?_) ?_
    rotate_left
    · rfl
    · have s1 := (hx.cell (p := ⟨w.heap.size + 1, 0, none⟩) (by rw [HZ.out]; show w.heap.size + 1 < _; omega)).trans f1
      have s2 := (hx.cell (p := ⟨w.heap.size + 1, 1, none⟩) (by rw [HZ.out]; show w.heap.size + 1 < _; omega)).trans f2
      have s3 := (hx.cell (p := ⟨w.heap.size + 1 + 1, 0, none⟩) (by rw [HZ.out]; show w.heap.size + 1 + 1 < _; omega)).trans f3
      have s4 := (hx.cell (p := ⟨w.heap.size + 1 + 1, 1, none⟩) (by rw [HZ.out]; show w.heap.size + 1 + 1 < _; omega)).trans f4
      clear hx
      go_simp
      first | rfl | exact spread_still _ _
    simp only [Act.put, List.setIfInBounds_toArray, List.set_cons_zero, List.set_cons_succ]
  iterate 2
    refine wpCalm_no ?_ ?_
    · rfl
    simp only [Act.put, List.setIfInBounds_toArray, List.set_cons_zero, List.set_cons_succ]
  iterate 2
    refine wpCalm_yes ?_ ?_ (fun x hx => ?_) ?_
    rotate_left
    · rfl
    · have s1 := (hx.cell (p := ⟨w.heap.size + 1, 0, none⟩) (by rw [HZ.out]; show w.heap.size + 1 < _; omega)).trans f1
      have s2 := (hx.cell (p := ⟨w.heap.size + 1, 1, none⟩) (by rw [HZ.out]; show w.heap.size + 1 < _; omega)).trans f2
      have s3 := (hx.cell (p := ⟨w.heap.size + 1 + 1, 0, none⟩) (by rw [HZ.out]; show w.heap.size + 1 + 1 < _; omega)).trans f3
      have s4 := (hx.cell (p := ⟨w.heap.size + 1 + 1, 1, none⟩) (by rw [HZ.out]; show w.heap.size + 1 + 1 < _; omega)).trans f4
      clear hx
      go_simp
      first | rfl | exact spread_still _ _
    simp only [Act.put, List.setIfInBounds_toArray, List.set_cons_zero, List.set_cons_succ]
  iterate 2
    refine wpCalm_no ?_ ?_
    · rfl
    simp only [Act.put, List.setIfInBounds_toArray, List.set_cons_zero, List.set_cons_succ]
  iterate 3
    refine wpCalm_yes ?_ ?_ (fun x hx => ?_) ?_
    rotate_left
    · rfl
    · have s1 := (hx.cell (p := ⟨w.heap.size + 1, 0, none⟩) (by rw [HZ.out]; show w.heap.size + 1 < _; omega)).trans f1
      have s2 := (hx.cell (p := ⟨w.heap.size + 1, 1, none⟩) (by rw [HZ.out]; show w.heap.size + 1 < _; omega)).trans f2
      have s3 := (hx.cell (p := ⟨w.heap.size + 1 + 1, 0, none⟩) (by rw [HZ.out]; show w.heap.size + 1 + 1 < _; omega)).trans f3
      have s4 := (hx.cell (p := ⟨w.heap.size + 1 + 1, 1, none⟩) (by rw [HZ.out]; show w.heap.size + 1 + 1 < _; omega)).trans f4
      clear hx
      go_simp
      first | rfl | exact spread_still _ _
    simp only [Act.put, List.setIfInBounds_toArray, List.set_cons_zero, List.set_cons_succ]
  refine wpCalm_end ?_
  refine wpSeq_yes rfl ?_
  go_simp
  refine ⟨((Below.refl _ _).alloc (Nat.le_refl _) _).drew, ?_⟩
  refine wpSeq_yes rfl ?_
  go_simp
  refine ⟨((Below.refl _ _).alloc (Nat.le_refl _) _).drew, wpSeq_end ?_⟩
  have hW := HW.out
  clear f1 f2 f3 f4 HZ HW
  subst hW
  go_wp2_with fail
  refine (all_any _ _).mono ?_
  rintro r w' ⟨rfl, rfl⟩
  obtain ⟨p0, p1⟩ := spr_bd (decide (0 < bits .and .u8 ti 1))
  obtain ⟨q0, q1⟩ := spr_bd (decide (0 < bits .and .u8 ti 2))
  obtain ⟨r0, r1⟩ := spr_bd true
  have oa := or_ld a lv a0 a1 l0 l1
  have ob := or_ld b hv b0 b1 h0 h1
  have oc := or_ld c (spr (decide (0 < bits .and .u8 ti 1))) c0 c1 p0 p1
  have od := or_ld d (spr (decide (0 < bits .and .u8 ti 2))) d0 d1 q0 q1
  have oe := or_ld e (spr true) e0 e1 r0 r1
  have na := and65280 a a0 a1
  have nb := and65280 b b0 b1
  have nc := and65280 c c0 c1
  have nd := and65280 d d0 d1
  have ne := and65280 e e0 e1
  generalize hu : spr (decide (0 < bits .and .u8 ti 1)) = u at *
  generalize hv2 : spr (decide (0 < bits .and .u8 ti 2)) = v at *
  generalize hy : spr true = y at *
  have Hu := Lib.hid hu
  have Hv := Lib.hid hv2
  have Hy := Lib.hid hy
  clear hu hv2 hy
  go_wp2_with fail
  refine wp_loop_rounds 6 ?_
  iterate 5
    rw [rounds_succ]
    go_wp2_with fail
    go_region
    go_wp2_with fail
  rw [rounds_succ]
  go_wp2
  exact bodyPost_ret (v := .agg #[.int .u16 (ld a lv), .int .u16 (ld b hv), .int .u16 (ld c u), .int .u16 (ld d v), .int .u16 (ld e y)]) (by simp [results, Try.results10, go_sem]) rfl ⟨by rw [Hu.out, Hv.out, Hy.out], by go_grown⟩
set_option maxHeartbeats 4000000 in
theorem load_ft (a b c d e lv hv ti : Int) (hs : Bool) (w : World) (a0 : 0 ≤ a) (a1 : a ≤ 65535) (b0 : 0 ≤ b) (b1 : b ≤ 65535) (c0 : 0 ≤ c) (c1 : c ≤ 65535) (d0 : 0 ≤ d) (d1 : d ≤ 65535) (e0 : 0 ≤ e) (e1 : e ≤ 65535) (l0 : 0 ≤ lv) (l1 : lv ≤ 255) (h0 : 0 ≤ hv) (h1 : hv ≤ 255) :
    Calls Try.prog 10 #[.agg #[.int .u16 a, .int .u16 b, .int .u16 c, .int .u16 d, .int .u16 e], .agg #[.int .u8 lv, .bool true], .agg #[.int .u8 hv, .bool hs], .int .u8 ti, .bool false] w fun r w' => r = .returned (.agg #[.int .u16 (ld a lv), .int .u16 (ld b hv), .int .u16 (ld c (spr (decide (0 < bits .and .u8 ti 1)))), .int .u16 (ld d (spr (decide (0 < bits .and .u8 ti 2)))), .int .u16 (ld e (spr true))]) ∧ Below w.heap.size w w' := by
  have j0 := ix0
  have j1 := ix1
  have j2 := ix2
  have j3 := ix3
  have j4 := ix4
  go_enter Try.func10, Try.ntmps10
  go_wp2_with fail
  generalize hW : World.alloc _ _ = W
  have f1 : W.cell? ⟨w.heap.size + 1, 0, none⟩ = some (.int .u8 lv) := by rw [← hW]; exact cell_mid2 _ _ _ _ _ 0 _ (by rw [World.size_alloc])
  have f2 : W.cell? ⟨w.heap.size + 1, 1, none⟩ = some (.bool true) := by rw [← hW]; exact cell_mid2 _ _ _ _ _ 1 _ (by rw [World.size_alloc])
  have f3 : W.cell? ⟨w.heap.size + 1 + 1, 0, none⟩ = some (.int .u8 hv) := by rw [← hW]; exact cell_mid _ _ _ _ 0 _ (by rw [World.size_alloc, World.size_alloc])
  have f4 : W.cell? ⟨w.heap.size + 1 + 1, 1, none⟩ = some (.bool hs) := by rw [← hW]; exact cell_mid _ _ _ _ 1 _ (by rw [World.size_alloc, World.size_alloc])
  have hz : W.heap.size = w.heap.size + 4 := by rw [← hW]; simp [World.size_alloc]
  have HW := Lib.hid hW
  have HZ := Lib.hid hz
  clear hW hz
  refine wp_region_calm 25 (by kernel_rfl) (by kernel_rfl) (fun _ _ d _ _ h => by cases d <;> exact h) (S := fun x => Below W.heap.size W x) ((Below.refl _ _).drew) ?_
  simp only [List.take_succ_cons, List.take_zero, List.drop_succ_cons, List.drop_zero]
  iterate 16
    refine wpCalm_yes ?_ ?_ (fun x hx => ?_) ?_
    rotate_left
    · rfl
    · have s1 := (hx.cell (p := ⟨w.heap.size + 1, 0, none⟩) (by rw [HZ.out]; show w.heap.size + 1 < _; omega)).trans f1
      have s2 := (hx.cell (p := ⟨w.heap.size + 1, 1, none⟩) (by rw [HZ.out]; show w.heap.size + 1 < _; omega)).trans f2
      have s3 := (hx.cell (p := ⟨w.heap.size + 1 + 1, 0, none⟩) (by rw [HZ.out]; show w.heap.size + 1 + 1 < _; omega)).trans f3
      have s4 := (hx.cell (p := ⟨w.heap.size + 1 + 1, 1, none⟩) (by rw [HZ.out]; show w.heap.size + 1 + 1 < _; omega)).trans f4
      clear hx
      go_simp
      first | rfl | exact spread_still _ _
    simp only [Act.put, List.setIfInBounds_toArray, List.set_cons_zero, List.set_cons_succ]
  iterate 2
    refine wpCalm_yes ?_ ?_ (fun x hx => ?_) ?_
    rotate_left
    · rfl
    · have s1 := (hx.cell (p := ⟨w.heap.size + 1, 0, none⟩) (by rw [HZ.out]; show w.heap.size + 1 < _; omega)).trans f1
      have s2 := (hx.cell (p := ⟨w.heap.size + 1, 1, none⟩) (by rw [HZ.out]; show w.heap.size + 1 < _; omega)).trans f2
      have s3 := (hx.cell (p := ⟨w.heap.size + 1 + 1, 0, none⟩) (by rw [HZ.out]; show w.heap.size + 1 + 1 < _; omega)).trans f3
      have s4 := (hx.cell (p := ⟨w.heap.size + 1 + 1, 1, none⟩) (by rw [HZ.out]; show w.heap.size + 1 + 1 < _; omega)).trans f4
      clear hx
      go_simp
      first | rfl | exact spread_still _ _
    simp only [Act.put, List.setIfInBounds_toArray, List.set_cons_zero, List.set_cons_succ]
  iterate 2
    refine wpCalm_yes ?_ ?_ (fun x hx => ?_) ?_
    rotate_left
    · rfl
    · have s1 := (hx.cell (p := ⟨w.heap.size + 1, 0, none⟩) (by rw [HZ.out]; show w.heap.size + 1 < _; omega)).trans f1
      have s2 := (hx.cell (p := ⟨w.heap.size + 1, 1, none⟩) (by rw [HZ.out]; show w.heap.size + 1 < _; omega)).trans f2
      have s3 := (hx.cell (p := ⟨w.heap.size + 1 + 1, 0, none⟩) (by rw [HZ.out]; show w.heap.size + 1 + 1 < _; omega)).trans f3
      have s4 := (hx.cell (p := ⟨w.heap.size + 1 + 1, 1, none⟩) (by rw [HZ.out]; show w.heap.size + 1 + 1 < _; omega)).trans f4
      clear hx
      go_simp
      first | rfl | exact spread_still _ _
    simp only [Act.put, List.setIfInBounds_toArray, List.set_cons_zero, List.set_cons_succ]
  iterate 2
    refine wpCalm_no ?_ ?_
    · rfl
    simp only [Act.put, List.setIfInBounds_toArray, List.set_cons_zero, List.set_cons_succ]
  iterate 3
    refine wpCalm_yes ?_ ?_ (fun x hx => ?_) ?_
    rotate_left
    · rfl
    · have s1 := (hx.cell (p := ⟨w.heap.size + 1, 0, none⟩) (by rw [HZ.out]; show w.heap.size + 1 < _; omega)).trans f1
      have s2 := (hx.cell (p := ⟨w.heap.size + 1, 1, none⟩) (by rw [HZ.out]; show w.heap.size + 1 < _; omega)).trans f2
      have s3 := (hx.cell (p := ⟨w.heap.size + 1 + 1, 0, none⟩) (by rw [HZ.out]; show w.heap.size + 1 + 1 < _; omega)).trans f3
      have s4 := (hx.cell (p := ⟨w.heap.size + 1 + 1, 1, none⟩) (by rw [HZ.out]; show w.heap.size + 1 + 1 < _; omega)).trans f4
      clear hx
      go_simp
      first | rfl | exact spread_still _ _
    simp only [Act.put, List.setIfInBounds_toArray, List.set_cons_zero, List.set_cons_succ]
  refine wpCalm_end ?_
  refine wpSeq_yes rfl ?_
  go_simp
  refine ⟨((Below.refl _ _).alloc (Nat.le_refl _) _).drew, ?_⟩
  refine wpSeq_yes rfl ?_
  go_simp
  refine ⟨((Below.refl _ _).alloc (Nat.le_refl _) _).drew, wpSeq_end ?_⟩
  have hW := HW.out
  clear f1 f2 f3 f4 HZ HW
  subst hW
  go_wp2_with fail
  refine (all_any _ _).mono ?_
  rintro r w' ⟨rfl, rfl⟩
  obtain ⟨p0, p1⟩ := spr_bd (decide (0 < bits .and .u8 ti 1))
  obtain ⟨q0, q1⟩ := spr_bd (decide (0 < bits .and .u8 ti 2))
  obtain ⟨r0, r1⟩ := spr_bd true
  have oa := or_ld a lv a0 a1 l0 l1
  have ob := or_ld b hv b0 b1 h0 h1
  have oc := or_ld c (spr (decide (0 < bits .and .u8 ti 1))) c0 c1 p0 p1
  have od := or_ld d (spr (decide (0 < bits .and .u8 ti 2))) d0 d1 q0 q1
  have oe := or_ld e (spr true) e0 e1 r0 r1
  have na := and65280 a a0 a1
  have nb := and65280 b b0 b1
  have nc := and65280 c c0 c1
  have nd := and65280 d d0 d1
  have ne := and65280 e e0 e1
  generalize hu : spr (decide (0 < bits .and .u8 ti 1)) = u at *
  generalize hv2 : spr (decide (0 < bits .and .u8 ti 2)) = v at *
  generalize hy : spr true = y at *
  have Hu := Lib.hid hu
  have Hv := Lib.hid hv2
  have Hy := Lib.hid hy
  clear hu hv2 hy
  go_wp2_with fail
  refine wp_loop_rounds 6 ?_
  iterate 5
    rw [rounds_succ]
    go_wp2_with fail
    go_region
    go_wp2_with fail
  rw [rounds_succ]
  go_wp2
  exact bodyPost_ret (v := .agg #[.int .u16 (ld a lv), .int .u16 (ld b hv), .int .u16 (ld c u), .int .u16 (ld d v), .int .u16 (ld e y)]) (by simp [results, Try.results10, go_sem]) rfl ⟨by rw [Hu.out, Hv.out, Hy.out], by go_grown⟩
set_option maxHeartbeats 4000000 in
theorem load_ff (a b c d e lv hv ti : Int) (hs : Bool) (w : World) (a0 : 0 ≤ a) (a1 : a ≤ 65535) (b0 : 0 ≤ b) (b1 : b ≤ 65535) (c0 : 0 ≤ c) (c1 : c ≤ 65535) (d0 : 0 ≤ d) (d1 : d ≤ 65535) (e0 : 0 ≤ e) (e1 : e ≤ 65535) (l0 : 0 ≤ lv) (l1 : lv ≤ 255) (h0 : 0 ≤ hv) (h1 : hv ≤ 255) :
    Calls Try.prog 10 #[.agg #[.int .u16 a, .int .u16 b, .int .u16 c, .int .u16 d, .int .u16 e], .agg #[.int .u8 lv, .bool false], .agg #[.int .u8 hv, .bool hs], .int .u8 ti, .bool false] w fun r w' => r = .returned (.agg #[.int .u16 (ld a lv), .int .u16 (ld b hv), .int .u16 (ld c (spr (decide (0 < bits .and .u8 ti 1)))), .int .u16 (ld d (spr (decide (0 < bits .and .u8 ti 2)))), .int .u16 (ld e (spr hs))]) ∧ Below w.heap.size w w' := by
  have j0 := ix0
  have j1 := ix1
  have j2 := ix2
  have j3 := ix3
  have j4 := ix4
  go_enter Try.func10, Try.ntmps10
  go_wp2_with fail
  generalize hW : World.alloc _ _ = W
  have f1 : W.cell? ⟨w.heap.size + 1, 0, none⟩ = some (.int .u8 lv) := by rw [← hW]; exact cell_mid2 _ _ _ _ _ 0 _ (by rw [World.size_alloc])
  have f2 : W.cell? ⟨w.heap.size + 1, 1, none⟩ = some (.bool false) := by rw [← hW]; exact cell_mid2 _ _ _ _ _ 1 _ (by rw [World.size_alloc])
  have f3 : W.cell? ⟨w.heap.size + 1 + 1, 0, none⟩ = some (.int .u8 hv) := by rw [← hW]; exact cell_mid _ _ _ _ 0 _ (by rw [World.size_alloc, World.size_alloc])
  have f4 : W.cell? ⟨w.heap.size + 1 + 1, 1, none⟩ = some (.bool hs) := by rw [← hW]; exact cell_mid _ _ _ _ 1 _ (by rw [World.size_alloc, World.size_alloc])
  have hz : W.heap.size = w.heap.size + 4 := by rw [← hW]; simp [World.size_alloc]
  have HW := Lib.hid hW
  have HZ := Lib.hid hz
  clear hW hz
  refine wp_region_calm 25 (by kernel_rfl) (by kernel_rfl) (fun _ _ d _ _ h => by cases d <;> exact h) (S := fun x => Below W.heap.size W x) ((Below.refl _ _).drew) ?_
  simp only [List.take_succ_cons, List.take_zero, List.drop_succ_cons, List.drop_zero]
  iterate 16
    refine wpCalm_yes ?_ ?_ (fun x hx => ?_) ?_
    rotate_left
    · rfl
    · have s1 := (hx.cell (p := ⟨w.heap.size + 1, 0, none⟩) (by rw [HZ.out]; show w.heap.size + 1 < _; omega)).trans f1
      have s2 := (hx.cell (p := ⟨w.heap.size + 1, 1, none⟩) (by rw [HZ.out]; show w.heap.size + 1 < _; omega)).trans f2
      have s3 := (hx.cell (p := ⟨w.heap.size + 1 + 1, 0, none⟩) (by rw [HZ.out]; show w.heap.size + 1 + 1 < _; omega)).trans f3
      have s4 := (hx.cell (p := ⟨w.heap.size + 1 + 1, 1, none⟩) (by rw [HZ.out]; show w.heap.size + 1 + 1 < _; omega)).trans f4
      clear hx
      go_simp
      first | rfl | exact spread_still _ _
    simp only [Act.put, List.setIfInBounds_toArray, List.set_cons_zero, List.set_cons_succ]
  iterate 2
    refine wpCalm_yes ?_ ?_ (fun x hx => ?_) ?_
    rotate_left
    · rfl
    · have s1 := (hx.cell (p := ⟨w.heap.size + 1, 0, none⟩) (by rw [HZ.out]; show w.heap.size + 1 < _; omega)).trans f1
      have s2 := (hx.cell (p := ⟨w.heap.size + 1, 1, none⟩) (by rw [HZ.out]; show w.heap.size + 1 < _; omega)).trans f2
      have s3 := (hx.cell (p := ⟨w.heap.size + 1 + 1, 0, none⟩) (by rw [HZ.out]; show w.heap.size + 1 + 1 < _; omega)).trans f3
      have s4 := (hx.cell (p := ⟨w.heap.size + 1 + 1, 1, none⟩) (by rw [HZ.out]; show w.heap.size + 1 + 1 < _; omega)).trans f4
      clear hx
      go_simp
      first | rfl | exact spread_still _ _
    simp only [Act.put, List.setIfInBounds_toArray, List.set_cons_zero, List.set_cons_succ]
  iterate 2
    refine wpCalm_yes ?_ ?_ (fun x hx => ?_) ?_
    rotate_left
    · rfl
    · have s1 := (hx.cell (p := ⟨w.heap.size + 1, 0, none⟩) (by rw [HZ.out]; show w.heap.size + 1 < _; omega)).trans f1
      have s2 := (hx.cell (p := ⟨w.heap.size + 1, 1, none⟩) (by rw [HZ.out]; show w.heap.size + 1 < _; omega)).trans f2
      have s3 := (hx.cell (p := ⟨w.heap.size + 1 + 1, 0, none⟩) (by rw [HZ.out]; show w.heap.size + 1 + 1 < _; omega)).trans f3
      have s4 := (hx.cell (p := ⟨w.heap.size + 1 + 1, 1, none⟩) (by rw [HZ.out]; show w.heap.size + 1 + 1 < _; omega)).trans f4
      clear hx
      go_simp
      first | rfl | exact spread_still _ _
    simp only [Act.put, List.setIfInBounds_toArray, List.set_cons_zero, List.set_cons_succ]
  iterate 2
    refine wpCalm_yes ?_ ?_ (fun x hx => ?_) ?_
    rotate_left
    · rfl
    · have s1 := (hx.cell (p := ⟨w.heap.size + 1, 0, none⟩) (by rw [HZ.out]; show w.heap.size + 1 < _; omega)).trans f1
      have s2 := (hx.cell (p := ⟨w.heap.size + 1, 1, none⟩) (by rw [HZ.out]; show w.heap.size + 1 < _; omega)).trans f2
      have s3 := (hx.cell (p := ⟨w.heap.size + 1 + 1, 0, none⟩) (by rw [HZ.out]; show w.heap.size + 1 + 1 < _; omega)).trans f3
      have s4 := (hx.cell (p := ⟨w.heap.size + 1 + 1, 1, none⟩) (by rw [HZ.out]; show w.heap.size + 1 + 1 < _; omega)).trans f4
      clear hx
      go_simp
      first | rfl | exact spread_still _ _
    simp only [Act.put, List.setIfInBounds_toArray, List.set_cons_zero, List.set_cons_succ]
  iterate 3
    refine wpCalm_yes ?_ ?_ (fun x hx => ?_) ?_
    rotate_left
    · rfl
    · have s1 := (hx.cell (p := ⟨w.heap.size + 1, 0, none⟩) (by rw [HZ.out]; show w.heap.size + 1 < _; omega)).trans f1
      have s2 := (hx.cell (p := ⟨w.heap.size + 1, 1, none⟩) (by rw [HZ.out]; show w.heap.size + 1 < _; omega)).trans f2
      have s3 := (hx.cell (p := ⟨w.heap.size + 1 + 1, 0, none⟩) (by rw [HZ.out]; show w.heap.size + 1 + 1 < _; omega)).trans f3
      have s4 := (hx.cell (p := ⟨w.heap.size + 1 + 1, 1, none⟩) (by rw [HZ.out]; show w.heap.size + 1 + 1 < _; omega)).trans f4
      clear hx
      go_simp
      first | rfl | exact spread_still _ _
    simp only [Act.put, List.setIfInBounds_toArray, List.set_cons_zero, List.set_cons_succ]
  refine wpCalm_end ?_
  refine wpSeq_yes rfl ?_
  go_simp
  refine ⟨((Below.refl _ _).alloc (Nat.le_refl _) _).drew, ?_⟩
  refine wpSeq_yes rfl ?_
  go_simp
  refine ⟨((Below.refl _ _).alloc (Nat.le_refl _) _).drew, wpSeq_end ?_⟩
  have hW := HW.out
  clear f1 f2 f3 f4 HZ HW
  subst hW
  go_wp2_with fail
  refine (all_any _ _).mono ?_
  rintro r w' ⟨rfl, rfl⟩
  obtain ⟨p0, p1⟩ := spr_bd (decide (0 < bits .and .u8 ti 1))
  obtain ⟨q0, q1⟩ := spr_bd (decide (0 < bits .and .u8 ti 2))
  obtain ⟨r0, r1⟩ := spr_bd hs
  have oa := or_ld a lv a0 a1 l0 l1
  have ob := or_ld b hv b0 b1 h0 h1
  have oc := or_ld c (spr (decide (0 < bits .and .u8 ti 1))) c0 c1 p0 p1
  have od := or_ld d (spr (decide (0 < bits .and .u8 ti 2))) d0 d1 q0 q1
  have oe := or_ld e (spr hs) e0 e1 r0 r1
  have na := and65280 a a0 a1
  have nb := and65280 b b0 b1
  have nc := and65280 c c0 c1
  have nd := and65280 d d0 d1
  have ne := and65280 e e0 e1
  generalize hu : spr (decide (0 < bits .and .u8 ti 1)) = u at *
  generalize hv2 : spr (decide (0 < bits .and .u8 ti 2)) = v at *
  generalize hy : spr hs = y at *
  have Hu := Lib.hid hu
  have Hv := Lib.hid hv2
  have Hy := Lib.hid hy
  clear hu hv2 hy
  go_wp2_with fail
  refine wp_loop_rounds 6 ?_
  iterate 5
    rw [rounds_succ]
    go_wp2_with fail
    go_region
    go_wp2_with fail
  rw [rounds_succ]
  go_wp2
  exact bodyPost_ret (v := .agg #[.int .u16 (ld a lv), .int .u16 (ld b hv), .int .u16 (ld c u), .int .u16 (ld d v), .int .u16 (ld e y)]) (by simp [results, Try.results10, go_sem]) rfl ⟨by rw [Hu.out, Hv.out, Hy.out], by go_grown⟩
theorem tint1 : ∀ n : Nat, n < 256 → decide (0 < bits .and .u8 (n : Int) 1) = (n % 2 == 1) ∧ decide (0 < bits .and .u8 (n : Int) 2) = (n / 2 % 2 == 1) := by decide +kernel
theorem tint_w (t : Int) (t0 : 0 ≤ t) (t1 : t ≤ 255) : decide (0 < bits .and .u8 t 1) = (t % 2 == 1) ∧ decide (0 < bits .and .u8 t 2) = (t / 2 % 2 == 1) := by
  obtain ⟨n, rfl⟩ := Int.eq_ofNat_of_zero_le t0
  obtain ⟨e1, e2⟩ := tint1 n (by omega)
  rw [e1, e2]
  constructor
  · rw [Bool.eq_iff_iff, beq_iff_eq, beq_iff_eq]; omega
  · rw [Bool.eq_iff_iff, beq_iff_eq, beq_iff_eq]; omega
theorem load_any (a b c d e lv hv ti : Int) (s ls hs : Bool) (w : World) (a0 : 0 ≤ a) (a1 : a ≤ 65535) (b0 : 0 ≤ b) (b1 : b ≤ 65535) (c0 : 0 ≤ c) (c1 : c ≤ 65535) (d0 : 0 ≤ d) (d1 : d ≤ 65535) (e0 : 0 ≤ e) (e1 : e ≤ 65535) (l0 : 0 ≤ lv) (l1 : lv ≤ 255) (h0 : 0 ≤ hv) (h1 : hv ≤ 255) (t0 : 0 ≤ ti) (t1 : ti ≤ 255) :
    Calls Try.prog 10 #[.agg #[.int .u16 a, .int .u16 b, .int .u16 c, .int .u16 d, .int .u16 e], .agg #[.int .u8 lv, .bool ls], .agg #[.int .u8 hv, .bool hs], .int .u8 ti, .bool s] w fun r w' => r = .returned (.agg #[.int .u16 (ld a lv), .int .u16 (ld b hv), .int .u16 (ld c (spr (ti % 2 == 1))), .int .u16 (ld d (spr (ti / 2 % 2 == 1))), .int .u16 (ld e (spr (s || ls || hs)))]) ∧ Below w.heap.size w w' := by
  obtain ⟨k1, k2⟩ := tint_w ti t0 t1
  rw [← k1, ← k2]
  cases s
  · cases ls
    · exact load_ff a b c d e lv hv ti hs w a0 a1 b0 b1 c0 c1 d0 d1 e0 e1 l0 l1 h0 h1
    · exact load_ft a b c d e lv hv ti hs w a0 a1 b0 b1 c0 c1 d0 d1 e0 e1 l0 l1 h0 h1
  · exact load_t a b c d e lv hv ti ls hs w a0 a1 b0 b1 c0 c1 d0 d1 e0 e1 l0 l1 h0 h1
end Go.Proofs.Ytnmobjjinidmiaa
