/- The answers of Do, Tile, Tint, Row for a scroll that may not be; the reference's Tile and Tint. -/
import Derived.Test.YtleggfpcgdpoaaaH
namespace Go.Proofs.Ytleggfpcgdpoaaa
open Go.ChangeShapes Go.WideShapes Go.ChangeAt Go.RowKit
set_option linter.unusedVariables false
theorem tile_bad (v t x : Int) (b : Bool) (w : World) (h : ¬ (v ≤ 32767 ∧ t ≤ 32767 ∧ x ≤ 7)) :
    Calls Try.prog 20 #[.agg #[.int .u16 v, .int .u16 t, .int .u8 x, .bool b]] w fun e w' => e = .returned (.int .u16 0) ∧ Below w.heap.size w w' := by
  go_enter Try.func20, Try.ntmps20
  go_wp2_with fail
  refine (check_bad v t x b _ h).mono ?_
  rintro e w1 ⟨rfl, z1⟩
  have hG := Lib.hid (below_new (Below.refl w.heap.size w) (Nat.le_refl _) z1)
  clear z1
  go_wp2
  go_ret
  exact ⟨rfl, hG.out⟩
theorem row_bad (v t x : Int) (b : Bool) (w : World) (h : ¬ (v ≤ 32767 ∧ t ≤ 32767 ∧ x ≤ 7)) :
    Calls Try.prog 21 #[.agg #[.int .u16 v, .int .u16 t, .int .u8 x, .bool b]] w fun e w' => e = .returned (.int .u16 0) ∧ Below w.heap.size w w' := by
  go_enter Try.func21, Try.ntmps21
  go_wp2_with fail
  refine (check_bad v t x b _ h).mono ?_
  rintro e w1 ⟨rfl, z1⟩
  have hG := Lib.hid (below_new (Below.refl w.heap.size w) (Nat.le_refl _) z1)
  clear z1
  go_wp2
  go_ret
  exact ⟨rfl, hG.out⟩
theorem tint_bad (v t x : Int) (b : Bool) (w : World) (h : ¬ (v ≤ 32767 ∧ t ≤ 32767 ∧ x ≤ 7)) :
    Calls Try.prog 18 #[.agg #[.int .u16 v, .int .u16 t, .int .u8 x, .bool b]] w fun e w' => e = .returned (.tuple #[.int .u16 0, .int .i64 0]) ∧ Below w.heap.size w w' := by
  go_enter Try.func18, Try.ntmps18
  go_wp2_with fail
  refine (check_bad v t x b _ h).mono ?_
  rintro e w1 ⟨rfl, z1⟩
  have hG := Lib.hid (below_new (Below.refl w.heap.size w) (Nat.le_refl _) z1)
  clear z1
  go_wp2
  go_ret2
  exact ⟨rfl, hG.out⟩
theorem rtile_any (v t x : Int) (b : Bool) (w : World) (v0 : 0 ≤ v) (v1 : v ≤ 32767) :
    Calls Try.prog 24 #[.agg #[.int .u16 v, .int .u16 t, .int .u8 x, .bool b]] w fun e w' => e = .returned (.int .u16 (8192 + v % 4096)) ∧ Below w.heap.size w w' := by
  have e1 : v.tmod 4096 = v % 4096 := Int.tmod_eq_emod_of_nonneg v0
  go_enter Try.func24, Try.ntmps24
  go_wp2
  go_ret
  exact ⟨rfl, by go_grown⟩
set_option maxHeartbeats 2000000 in
theorem rtint_any (v t x : Int) (b : Bool) (w : World) (v0 : 0 ≤ v) (v1 : v ≤ 32767) :
    Calls Try.prog 22 #[.agg #[.int .u16 v, .int .u16 t, .int .u8 x, .bool b]] w fun e w' => e = .returned (.tuple #[.int .u16 (ti v), .int .i64 (ts v)]) ∧ Below w.heap.size w w' := by
  obtain ⟨a, c, h, k, f, rfl, s⟩ := apart v v0 v1
  obtain ⟨q1, q2, q3, q4, q5⟩ := pt_parts s
  have hap := fun w => apart_any (pt a c h k f) w v0 v1
  rw [q1, q2, q3, q4, q5] at hap
  obtain ⟨⟨a0, a1⟩, ⟨c0, c1⟩, ⟨h0, h1⟩, ⟨k0, k1⟩, f0, f1⟩ := s
  have e1 : ti (pt a c h k f) = 9152 + 1024 * h + 2048 * k + c / 4 * 8 + a / 4 := by unfold ti pt; omega
  have e2 : ts (pt a c h k f) = c / 2 % 2 * 4 + a / 2 % 2 * 2 := by unfold ts pt; omega
  rw [e1, e2]
  clear e1 e2 q1 q2 q3 q4 q5
  generalize pt a c h k f = v at hap v0 v1
  have d1 : c.tdiv 4 = c / 4 := Int.tdiv_eq_ediv_of_nonneg c0
  have d2 : a.tdiv 4 = a / 4 := Int.tdiv_eq_ediv_of_nonneg a0
  have d3 : c.tdiv 2 = c / 2 := Int.tdiv_eq_ediv_of_nonneg c0
  have d4 : a.tdiv 2 = a / 2 := Int.tdiv_eq_ediv_of_nonneg a0
  have d5 : (c / 2).tmod 2 = c / 2 % 2 := Int.tmod_eq_emod_of_nonneg (by omega)
  have d6 : (a / 2).tmod 2 = a / 2 % 2 := Int.tmod_eq_emod_of_nonneg (by omega)
  have Hap := Lib.hid hap
  clear hap
  go_enter Try.func22, Try.ntmps22
  go_wp2_with fail
  refine (Hap.out _).mono ?_
  rintro e w1 ⟨rfl, z1⟩
  have hG := Lib.hid (below_new (Below.refl w.heap.size w) (Nat.le_refl _) z1)
  clear z1
  go_wp2_with fail
  go_region
  go_wp2
  go_ret2
  exact ⟨rfl, (hG.out.alloc hG.out.size _).drew⟩
set_option maxHeartbeats 1000000 in
theorem change_bad (v t x : Int) (b : Bool) (fv : Value) (w : World) (h : ¬ (v ≤ 32767 ∧ t ≤ 32767 ∧ x ≤ 7)) :
    Calls Try.prog 26 #[.agg #[.int .u16 v, .int .u16 t, .int .u8 x, .bool b], fv] w fun e w' => e = .returned (.tuple #[.agg #[.int .u16 v, .int .u16 t, .int .u8 x, .bool b], .int .i64 1]) ∧ Below w.heap.size w w' := by
  go_enter Try.func26, Try.ntmps26
  go_wp2_with fail
  refine (check_bad v t x b _ h).mono ?_
  rintro e w1 ⟨rfl, z1⟩
  have hB := Lib.hid (old_in (heap_alloc2_old _ _ _) z1)
  have hR := Lib.hid (new_at z1 (World.size_alloc _ _))
  have hG := Lib.hid (below_call (((Below.refl w.heap.size w).alloc (Nat.le_refl _) _).alloc (by rw [World.size_alloc]; exact Nat.le_succ _) _) z1)
  clear z1
  have kB := cells_of hB.out
  go_wp2_with (refine wpList_store_row rfl 24 (.tmp 4) (.tmp 11) rfl (w.heap.size + 1) _ rfl rfl 24 _ hR.out (by kernel_rfl) rfl (one4 _ _ _ _) ?_)
  have kR := cells_of (setRow_heap _ _ _ #[.int .u16 v, .int .u16 t, .int .u8 x, .bool b] _ _ hR.out)
  exact bodyPost_ret (by simp [results, Try.results26, go_sem, kR]) rfl ⟨rfl, Below.setRow hG.out (Nat.le_succ _) _⟩
set_option maxHeartbeats 1000000 in
theorem status_bad (v t x : Int) (b : Bool) (w : World) (h : ¬ (v ≤ 32767 ∧ t ≤ 32767 ∧ x ≤ 7)) :
    Calls Try.prog 10 #[.agg #[.int .u16 v, .int .u16 t, .int .u8 x, .bool b]] w fun e w' => e = .returned (.tuple #[.agg #[.int .u16 v, .int .u16 t, .int .u8 x, .bool b], .int .i64 1]) ∧ Below w.heap.size w w' := by
  go_enter Try.func10, Try.ntmps10
  go_wp2_with fail
  refine (change_bad v t x b _ _ h).mono ?_
  rintro e w1 ⟨rfl, z1⟩
  have hR := Lib.hid (new_at (cs := #[.int .u16 0, .int .u16 0, .int .u8 0, .bool false]) (t := 24) (n := w.heap.size + 1) z1 (by rw [World.size_alloc]))
  have hG := Lib.hid (below_call (((Below.refl w.heap.size w).alloc (Nat.le_refl _) _).alloc (by rw [World.size_alloc]; exact Nat.le_succ _) _) z1)
  clear z1
  go_wp2_with (refine wpList_store_row rfl 24 (.tmp 2) (.tmp 6) rfl (w.heap.size + 1) _ rfl rfl 24 _ hR.out (by kernel_rfl) rfl (one4 _ _ _ _) ?_)
  have kR := cells_of (setRow_heap _ _ _ #[.int .u16 v, .int .u16 t, .int .u8 x, .bool b] _ _ hR.out)
  exact bodyPost_ret (by simp [results, Try.results10, go_sem, kR]) rfl ⟨rfl, Below.setRow hG.out (by omega) _⟩
set_option maxHeartbeats 1000000 in
theorem right_bad (v t x : Int) (b : Bool) (w : World) (h : ¬ (v ≤ 32767 ∧ t ≤ 32767 ∧ x ≤ 7)) :
    Calls Try.prog 15 #[.agg #[.int .u16 v, .int .u16 t, .int .u8 x, .bool b]] w fun e w' => e = .returned (.tuple #[.agg #[.int .u16 v, .int .u16 t, .int .u8 x, .bool b], .int .i64 1]) ∧ Below w.heap.size w w' := by
  go_enter Try.func15, Try.ntmps15
  go_wp2_with fail
  refine (change_bad v t x b _ _ h).mono ?_
  rintro e w1 ⟨rfl, z1⟩
  have hR := Lib.hid (new_at (cs := #[.int .u16 0, .int .u16 0, .int .u8 0, .bool false]) (t := 24) (n := w.heap.size + 1) z1 (by rw [World.size_alloc]))
  have hG := Lib.hid (below_call (((Below.refl w.heap.size w).alloc (Nat.le_refl _) _).alloc (by rw [World.size_alloc]; exact Nat.le_succ _) _) z1)
  clear z1
  go_wp2_with (refine wpList_store_row rfl 24 (.tmp 2) (.tmp 6) rfl (w.heap.size + 1) _ rfl rfl 24 _ hR.out (by kernel_rfl) rfl (one4 _ _ _ _) ?_)
  have kR := cells_of (setRow_heap _ _ _ #[.int .u16 v, .int .u16 t, .int .u8 x, .bool b] _ _ hR.out)
  exact bodyPost_ret (by simp [results, Try.results15, go_sem, kR]) rfl ⟨rfl, Below.setRow hG.out (by omega) _⟩
set_option maxHeartbeats 1000000 in
theorem down_bad (v t x : Int) (b : Bool) (w : World) (h : ¬ (v ≤ 32767 ∧ t ≤ 32767 ∧ x ≤ 7)) :
    Calls Try.prog 16 #[.agg #[.int .u16 v, .int .u16 t, .int .u8 x, .bool b]] w fun e w' => e = .returned (.tuple #[.agg #[.int .u16 v, .int .u16 t, .int .u8 x, .bool b], .int .i64 1]) ∧ Below w.heap.size w w' := by
  go_enter Try.func16, Try.ntmps16
  go_wp2_with fail
  refine (change_bad v t x b _ _ h).mono ?_
  rintro e w1 ⟨rfl, z1⟩
  have hR := Lib.hid (new_at (cs := #[.int .u16 0, .int .u16 0, .int .u8 0, .bool false]) (t := 24) (n := w.heap.size + 1) z1 (by rw [World.size_alloc]))
  have hG := Lib.hid (below_call (((Below.refl w.heap.size w).alloc (Nat.le_refl _) _).alloc (by rw [World.size_alloc]; exact Nat.le_succ _) _) z1)
  clear z1
  go_wp2_with (refine wpList_store_row rfl 24 (.tmp 2) (.tmp 6) rfl (w.heap.size + 1) _ rfl rfl 24 _ hR.out (by kernel_rfl) rfl (one4 _ _ _ _) ?_)
  have kR := cells_of (setRow_heap _ _ _ #[.int .u16 v, .int .u16 t, .int .u8 x, .bool b] _ _ hR.out)
  exact bodyPost_ret (by simp [results, Try.results16, go_sem, kR]) rfl ⟨rfl, Below.setRow hG.out (by omega) _⟩
set_option maxHeartbeats 1000000 in
theorem across_bad (v t x : Int) (b : Bool) (w : World) (h : ¬ (v ≤ 32767 ∧ t ≤ 32767 ∧ x ≤ 7)) :
    Calls Try.prog 13 #[.agg #[.int .u16 v, .int .u16 t, .int .u8 x, .bool b]] w fun e w' => e = .returned (.tuple #[.agg #[.int .u16 v, .int .u16 t, .int .u8 x, .bool b], .int .i64 1]) ∧ Below w.heap.size w w' := by
  go_enter Try.func13, Try.ntmps13
  go_wp2_with fail
  refine (change_bad v t x b _ _ h).mono ?_
  rintro e w1 ⟨rfl, z1⟩
  have hR := Lib.hid (new_at (cs := #[.int .u16 0, .int .u16 0, .int .u8 0, .bool false]) (t := 24) (n := w.heap.size + 1) z1 (by rw [World.size_alloc]))
  have hG := Lib.hid (below_call (((Below.refl w.heap.size w).alloc (Nat.le_refl _) _).alloc (by rw [World.size_alloc]; exact Nat.le_succ _) _) z1)
  clear z1
  go_wp2_with (refine wpList_store_row rfl 24 (.tmp 2) (.tmp 6) rfl (w.heap.size + 1) _ rfl rfl 24 _ hR.out (by kernel_rfl) rfl (one4 _ _ _ _) ?_)
  have kR := cells_of (setRow_heap _ _ _ #[.int .u16 v, .int .u16 t, .int .u8 x, .bool b] _ _ hR.out)
  exact bodyPost_ret (by simp [results, Try.results13, go_sem, kR]) rfl ⟨rfl, Below.setRow hG.out (by omega) _⟩
set_option maxHeartbeats 1000000 in
theorem top_bad (v t x : Int) (b : Bool) (w : World) (h : ¬ (v ≤ 32767 ∧ t ≤ 32767 ∧ x ≤ 7)) :
    Calls Try.prog 14 #[.agg #[.int .u16 v, .int .u16 t, .int .u8 x, .bool b]] w fun e w' => e = .returned (.tuple #[.agg #[.int .u16 v, .int .u16 t, .int .u8 x, .bool b], .int .i64 1]) ∧ Below w.heap.size w w' := by
  go_enter Try.func14, Try.ntmps14
  go_wp2_with fail
  refine (change_bad v t x b _ _ h).mono ?_
  rintro e w1 ⟨rfl, z1⟩
  have hR := Lib.hid (new_at (cs := #[.int .u16 0, .int .u16 0, .int .u8 0, .bool false]) (t := 24) (n := w.heap.size + 1) z1 (by rw [World.size_alloc]))
  have hG := Lib.hid (below_call (((Below.refl w.heap.size w).alloc (Nat.le_refl _) _).alloc (by rw [World.size_alloc]; exact Nat.le_succ _) _) z1)
  clear z1
  go_wp2_with (refine wpList_store_row rfl 24 (.tmp 2) (.tmp 6) rfl (w.heap.size + 1) _ rfl rfl 24 _ hR.out (by kernel_rfl) rfl (one4 _ _ _ _) ?_)
  have kR := cells_of (setRow_heap _ _ _ #[.int .u16 v, .int .u16 t, .int .u8 x, .bool b] _ _ hR.out)
  exact bodyPost_ret (by simp [results, Try.results14, go_sem, kR]) rfl ⟨rfl, Below.setRow hG.out (by omega) _⟩
set_option maxHeartbeats 1000000 in
theorem control_bad (v t x : Int) (b : Bool) (n : Int) (w : World) (h : ¬ (v ≤ 32767 ∧ t ≤ 32767 ∧ x ≤ 7)) :
    Calls Try.prog 35 #[.agg #[.int .u16 v, .int .u16 t, .int .u8 x, .bool b], .int .u8 n] w fun e w' => e = .returned (.tuple #[.agg #[.int .u16 v, .int .u16 t, .int .u8 x, .bool b], .int .i64 1]) ∧ Below w.heap.size w w' := by
  go_enter Try.func35, Try.ntmps35
  go_wp2_with fail
  refine (change_bad v t x b _ _ h).mono ?_
  rintro e w1 ⟨rfl, z1⟩
  have hR := Lib.hid (new_at (cs := #[.int .u16 0, .int .u16 0, .int .u8 0, .bool false]) (t := 24) (n := w.heap.size + 1 + 1) z1 (by rw [World.size_alloc, World.size_alloc]))
  have hG := Lib.hid (below_call ((((Below.refl w.heap.size w).alloc (Nat.le_refl _) _).alloc (by rw [World.size_alloc]; exact Nat.le_succ _) _).alloc (by rw [World.size_alloc, World.size_alloc]; omega) _) z1)
  clear z1
  go_wp2_with (refine wpList_store_row rfl 24 (.tmp 4) (.tmp 9) rfl (w.heap.size + 1 + 1) _ rfl rfl 24 _ hR.out (by kernel_rfl) rfl (one4 _ _ _ _) ?_)
  have kR := cells_of (setRow_heap _ _ _ #[.int .u16 v, .int .u16 t, .int .u8 x, .bool b] _ _ hR.out)
  exact bodyPost_ret (by simp [results, Try.results35, go_sem, kR]) rfl ⟨rfl, Below.setRow hG.out (by omega) _⟩
set_option maxHeartbeats 1000000 in
theorem write_bad (v t x : Int) (b : Bool) (n : Int) (w : World) (h : ¬ (v ≤ 32767 ∧ t ≤ 32767 ∧ x ≤ 7)) :
    Calls Try.prog 12 #[.agg #[.int .u16 v, .int .u16 t, .int .u8 x, .bool b], .int .u8 n] w fun e w' => e = .returned (.tuple #[.agg #[.int .u16 v, .int .u16 t, .int .u8 x, .bool b], .int .i64 1]) ∧ Below w.heap.size w w' := by
  go_enter Try.func12, Try.ntmps12
  go_wp2_with fail
  refine (change_bad v t x b _ _ h).mono ?_
  rintro e w1 ⟨rfl, z1⟩
  have hR := Lib.hid (new_at (cs := #[.int .u16 0, .int .u16 0, .int .u8 0, .bool false]) (t := 24) (n := w.heap.size + 1 + 1) z1 (by rw [World.size_alloc, World.size_alloc]))
  have hG := Lib.hid (below_call ((((Below.refl w.heap.size w).alloc (Nat.le_refl _) _).alloc (by rw [World.size_alloc]; exact Nat.le_succ _) _).alloc (by rw [World.size_alloc, World.size_alloc]; omega) _) z1)
  clear z1
  go_wp2_with (refine wpList_store_row rfl 24 (.tmp 4) (.tmp 9) rfl (w.heap.size + 1 + 1) _ rfl rfl 24 _ hR.out (by kernel_rfl) rfl (one4 _ _ _ _) ?_)
  have kR := cells_of (setRow_heap _ _ _ #[.int .u16 v, .int .u16 t, .int .u8 x, .bool b] _ _ hR.out)
  exact bodyPost_ret (by simp [results, Try.results12, go_sem, kR]) rfl ⟨rfl, Below.setRow hG.out (by omega) _⟩
set_option maxHeartbeats 1000000 in
theorem addr_bad (v t x : Int) (b : Bool) (n : Int) (w : World) (h : ¬ (v ≤ 32767 ∧ t ≤ 32767 ∧ x ≤ 7)) :
    Calls Try.prog 11 #[.agg #[.int .u16 v, .int .u16 t, .int .u8 x, .bool b], .int .u8 n] w fun e w' => e = .returned (.tuple #[.agg #[.int .u16 v, .int .u16 t, .int .u8 x, .bool b], .int .i64 1]) ∧ Below w.heap.size w w' := by
  go_enter Try.func11, Try.ntmps11
  go_wp2_with fail
  refine (change_bad v t x b _ _ h).mono ?_
  rintro e w1 ⟨rfl, z1⟩
  have hR := Lib.hid (new_at (cs := #[.int .u16 0, .int .u16 0, .int .u8 0, .bool false]) (t := 24) (n := w.heap.size + 1 + 1) z1 (by rw [World.size_alloc, World.size_alloc]))
  have hG := Lib.hid (below_call ((((Below.refl w.heap.size w).alloc (Nat.le_refl _) _).alloc (by rw [World.size_alloc]; exact Nat.le_succ _) _).alloc (by rw [World.size_alloc, World.size_alloc]; omega) _) z1)
  clear z1
  go_wp2_with (refine wpList_store_row rfl 24 (.tmp 4) (.tmp 9) rfl (w.heap.size + 1 + 1) _ rfl rfl 24 _ hR.out (by kernel_rfl) rfl (one4 _ _ _ _) ?_)
  have kR := cells_of (setRow_heap _ _ _ #[.int .u16 v, .int .u16 t, .int .u8 x, .bool b] _ _ hR.out)
  exact bodyPost_ret (by simp [results, Try.results11, go_sem, kR]) rfl ⟨rfl, Below.setRow hG.out (by omega) _⟩
set_option maxHeartbeats 1000000 in
theorem step_bad (v t x : Int) (b : Bool) (n : Bool) (w : World) (h : ¬ (v ≤ 32767 ∧ t ≤ 32767 ∧ x ≤ 7)) :
    Calls Try.prog 36 #[.agg #[.int .u16 v, .int .u16 t, .int .u8 x, .bool b], .bool n] w fun e w' => e = .returned (.tuple #[.agg #[.int .u16 v, .int .u16 t, .int .u8 x, .bool b], .int .i64 1]) ∧ Below w.heap.size w w' := by
  go_enter Try.func36, Try.ntmps36
  go_wp2_with fail
  refine (change_bad v t x b _ _ h).mono ?_
  rintro e w1 ⟨rfl, z1⟩
  have hR := Lib.hid (new_at (cs := #[.int .u16 0, .int .u16 0, .int .u8 0, .bool false]) (t := 24) (n := w.heap.size + 1 + 1) z1 (by rw [World.size_alloc, World.size_alloc]))
  have hG := Lib.hid (below_call ((((Below.refl w.heap.size w).alloc (Nat.le_refl _) _).alloc (by rw [World.size_alloc]; exact Nat.le_succ _) _).alloc (by rw [World.size_alloc, World.size_alloc]; omega) _) z1)
  clear z1
  go_wp2_with (refine wpList_store_row rfl 24 (.tmp 4) (.tmp 9) rfl (w.heap.size + 1 + 1) _ rfl rfl 24 _ hR.out (by kernel_rfl) rfl (one4 _ _ _ _) ?_)
  have kR := cells_of (setRow_heap _ _ _ #[.int .u16 v, .int .u16 t, .int .u8 x, .bool b] _ _ hR.out)
  exact bodyPost_ret (by simp [results, Try.results36, go_sem, kR]) rfl ⟨rfl, Below.setRow hG.out (by omega) _⟩
set_option maxHeartbeats 1000000 in
theorem do_bad_0 (v t x n : Int) (b : Bool) (w : World) (h : ¬ (v ≤ 32767 ∧ t ≤ 32767 ∧ x ≤ 7)) :
    Calls Try.prog 17 #[.agg #[.int .u16 v, .int .u16 t, .int .u8 x, .bool b], .int .i64 0, .int .u8 n] w fun e w' => e = .returned (.tuple #[.agg #[.int .u16 v, .int .u16 t, .int .u8 x, .bool b], .int .i64 1]) ∧ Below w.heap.size w w' := by
  go_enter Try.func17, Try.ntmps17
  go_wp2_with fail
  refine (control_bad v t x b n _ h).mono ?_
  rintro e w1 ⟨rfl, z1⟩
  have hR := Lib.hid (new_at (cs := #[.int .u16 0, .int .u16 0, .int .u8 0, .bool false]) (t := 24) (n := w.heap.size + 1) z1 (by rw [World.size_alloc]))
  have hG := Lib.hid (below_call ((Below.refl w.heap.size w).alloc (Nat.le_refl _) _ |>.alloc (by rw [World.size_alloc]; exact Nat.le_succ _) _) z1)
  clear z1
  go_wp2_with (refine wpList_store_row rfl 24 (.tmp 6) (.tmp 14) rfl (w.heap.size + 1) _ rfl rfl 24 _ hR.out (by kernel_rfl) rfl (one4 _ _ _ _) ?_)
  have kR := cells_of (setRow_heap _ _ _ #[.int .u16 v, .int .u16 t, .int .u8 x, .bool b] _ _ hR.out)
  exact bodyPost_ret (by simp [results, Try.results17, go_sem, kR]) rfl ⟨rfl, Below.setRow hG.out (by omega) _⟩
set_option maxHeartbeats 1000000 in
theorem do_bad_1 (v t x n : Int) (b : Bool) (w : World) (h : ¬ (v ≤ 32767 ∧ t ≤ 32767 ∧ x ≤ 7)) :
    Calls Try.prog 17 #[.agg #[.int .u16 v, .int .u16 t, .int .u8 x, .bool b], .int .i64 1, .int .u8 n] w fun e w' => e = .returned (.tuple #[.agg #[.int .u16 v, .int .u16 t, .int .u8 x, .bool b], .int .i64 1]) ∧ Below w.heap.size w w' := by
  go_enter Try.func17, Try.ntmps17
  go_wp2_with fail
  refine (write_bad v t x b n _ h).mono ?_
  rintro e w1 ⟨rfl, z1⟩
  have hR := Lib.hid (new_at (cs := #[.int .u16 0, .int .u16 0, .int .u8 0, .bool false]) (t := 24) (n := w.heap.size + 1) z1 (by rw [World.size_alloc]))
  have hG := Lib.hid (below_call ((Below.refl w.heap.size w).alloc (Nat.le_refl _) _ |>.alloc (by rw [World.size_alloc]; exact Nat.le_succ _) _) z1)
  clear z1
  go_wp2_with (refine wpList_store_row rfl 24 (.tmp 6) (.tmp 21) rfl (w.heap.size + 1) _ rfl rfl 24 _ hR.out (by kernel_rfl) rfl (one4 _ _ _ _) ?_)
  have kR := cells_of (setRow_heap _ _ _ #[.int .u16 v, .int .u16 t, .int .u8 x, .bool b] _ _ hR.out)
  exact bodyPost_ret (by simp [results, Try.results17, go_sem, kR]) rfl ⟨rfl, Below.setRow hG.out (by omega) _⟩
set_option maxHeartbeats 1000000 in
theorem do_bad_2 (v t x n : Int) (b : Bool) (w : World) (h : ¬ (v ≤ 32767 ∧ t ≤ 32767 ∧ x ≤ 7)) :
    Calls Try.prog 17 #[.agg #[.int .u16 v, .int .u16 t, .int .u8 x, .bool b], .int .i64 2, .int .u8 n] w fun e w' => e = .returned (.tuple #[.agg #[.int .u16 v, .int .u16 t, .int .u8 x, .bool b], .int .i64 1]) ∧ Below w.heap.size w w' := by
  go_enter Try.func17, Try.ntmps17
  go_wp2_with fail
  refine (addr_bad v t x b n _ h).mono ?_
  rintro e w1 ⟨rfl, z1⟩
  have hR := Lib.hid (new_at (cs := #[.int .u16 0, .int .u16 0, .int .u8 0, .bool false]) (t := 24) (n := w.heap.size + 1) z1 (by rw [World.size_alloc]))
  have hG := Lib.hid (below_call ((Below.refl w.heap.size w).alloc (Nat.le_refl _) _ |>.alloc (by rw [World.size_alloc]; exact Nat.le_succ _) _) z1)
  clear z1
  go_wp2_with (refine wpList_store_row rfl 24 (.tmp 6) (.tmp 28) rfl (w.heap.size + 1) _ rfl rfl 24 _ hR.out (by kernel_rfl) rfl (one4 _ _ _ _) ?_)
  have kR := cells_of (setRow_heap _ _ _ #[.int .u16 v, .int .u16 t, .int .u8 x, .bool b] _ _ hR.out)
  exact bodyPost_ret (by simp [results, Try.results17, go_sem, kR]) rfl ⟨rfl, Below.setRow hG.out (by omega) _⟩
set_option maxHeartbeats 1000000 in
theorem do_bad_3 (v t x n : Int) (b : Bool) (w : World) (h : ¬ (v ≤ 32767 ∧ t ≤ 32767 ∧ x ≤ 7)) :
    Calls Try.prog 17 #[.agg #[.int .u16 v, .int .u16 t, .int .u8 x, .bool b], .int .i64 3, .int .u8 n] w fun e w' => e = .returned (.tuple #[.agg #[.int .u16 v, .int .u16 t, .int .u8 x, .bool b], .int .i64 1]) ∧ Below w.heap.size w w' := by
  go_enter Try.func17, Try.ntmps17
  go_wp2_with fail
  refine (status_bad v t x b _ h).mono ?_
  rintro e w1 ⟨rfl, z1⟩
  have hR := Lib.hid (new_at (cs := #[.int .u16 0, .int .u16 0, .int .u8 0, .bool false]) (t := 24) (n := w.heap.size + 1) z1 (by rw [World.size_alloc]))
  have hG := Lib.hid (below_call ((Below.refl w.heap.size w).alloc (Nat.le_refl _) _ |>.alloc (by rw [World.size_alloc]; exact Nat.le_succ _) _) z1)
  clear z1
  go_wp2_with (refine wpList_store_row rfl 24 (.tmp 6) (.tmp 34) rfl (w.heap.size + 1) _ rfl rfl 24 _ hR.out (by kernel_rfl) rfl (one4 _ _ _ _) ?_)
  have kR := cells_of (setRow_heap _ _ _ #[.int .u16 v, .int .u16 t, .int .u8 x, .bool b] _ _ hR.out)
  exact bodyPost_ret (by simp [results, Try.results17, go_sem, kR]) rfl ⟨rfl, Below.setRow hG.out (by omega) _⟩
set_option maxHeartbeats 1000000 in
theorem do_bad_4 (v t x n : Int) (b : Bool) (w : World) (h : ¬ (v ≤ 32767 ∧ t ≤ 32767 ∧ x ≤ 7)) :
    Calls Try.prog 17 #[.agg #[.int .u16 v, .int .u16 t, .int .u8 x, .bool b], .int .i64 4, .int .u8 n] w fun e w' => e = .returned (.tuple #[.agg #[.int .u16 v, .int .u16 t, .int .u8 x, .bool b], .int .i64 1]) ∧ Below w.heap.size w w' := by
  go_enter Try.func17, Try.ntmps17
  go_wp2_with fail
  refine (step_bad v t x b false _ h).mono ?_
  rintro e w1 ⟨rfl, z1⟩
  have hR := Lib.hid (new_at (cs := #[.int .u16 0, .int .u16 0, .int .u8 0, .bool false]) (t := 24) (n := w.heap.size + 1) z1 (by rw [World.size_alloc]))
  have hG := Lib.hid (below_call ((Below.refl w.heap.size w).alloc (Nat.le_refl _) _ |>.alloc (by rw [World.size_alloc]; exact Nat.le_succ _) _) z1)
  clear z1
  go_wp2_with (refine wpList_store_row rfl 24 (.tmp 6) (.tmp 40) rfl (w.heap.size + 1) _ rfl rfl 24 _ hR.out (by kernel_rfl) rfl (one4 _ _ _ _) ?_)
  have kR := cells_of (setRow_heap _ _ _ #[.int .u16 v, .int .u16 t, .int .u8 x, .bool b] _ _ hR.out)
  exact bodyPost_ret (by simp [results, Try.results17, go_sem, kR]) rfl ⟨rfl, Below.setRow hG.out (by omega) _⟩
set_option maxHeartbeats 1000000 in
theorem do_bad_5 (v t x n : Int) (b : Bool) (w : World) (h : ¬ (v ≤ 32767 ∧ t ≤ 32767 ∧ x ≤ 7)) :
    Calls Try.prog 17 #[.agg #[.int .u16 v, .int .u16 t, .int .u8 x, .bool b], .int .i64 5, .int .u8 n] w fun e w' => e = .returned (.tuple #[.agg #[.int .u16 v, .int .u16 t, .int .u8 x, .bool b], .int .i64 1]) ∧ Below w.heap.size w w' := by
  go_enter Try.func17, Try.ntmps17
  go_wp2_with fail
  refine (step_bad v t x b true _ h).mono ?_
  rintro e w1 ⟨rfl, z1⟩
  have hR := Lib.hid (new_at (cs := #[.int .u16 0, .int .u16 0, .int .u8 0, .bool false]) (t := 24) (n := w.heap.size + 1) z1 (by rw [World.size_alloc]))
  have hG := Lib.hid (below_call ((Below.refl w.heap.size w).alloc (Nat.le_refl _) _ |>.alloc (by rw [World.size_alloc]; exact Nat.le_succ _) _) z1)
  clear z1
  go_wp2_with (refine wpList_store_row rfl 24 (.tmp 6) (.tmp 46) rfl (w.heap.size + 1) _ rfl rfl 24 _ hR.out (by kernel_rfl) rfl (one4 _ _ _ _) ?_)
  have kR := cells_of (setRow_heap _ _ _ #[.int .u16 v, .int .u16 t, .int .u8 x, .bool b] _ _ hR.out)
  exact bodyPost_ret (by simp [results, Try.results17, go_sem, kR]) rfl ⟨rfl, Below.setRow hG.out (by omega) _⟩
set_option maxHeartbeats 1000000 in
theorem do_bad_6 (v t x n : Int) (b : Bool) (w : World) (h : ¬ (v ≤ 32767 ∧ t ≤ 32767 ∧ x ≤ 7)) :
    Calls Try.prog 17 #[.agg #[.int .u16 v, .int .u16 t, .int .u8 x, .bool b], .int .i64 6, .int .u8 n] w fun e w' => e = .returned (.tuple #[.agg #[.int .u16 v, .int .u16 t, .int .u8 x, .bool b], .int .i64 1]) ∧ Below w.heap.size w w' := by
  go_enter Try.func17, Try.ntmps17
  go_wp2_with fail
  refine (right_bad v t x b _ h).mono ?_
  rintro e w1 ⟨rfl, z1⟩
  have hR := Lib.hid (new_at (cs := #[.int .u16 0, .int .u16 0, .int .u8 0, .bool false]) (t := 24) (n := w.heap.size + 1) z1 (by rw [World.size_alloc]))
  have hG := Lib.hid (below_call ((Below.refl w.heap.size w).alloc (Nat.le_refl _) _ |>.alloc (by rw [World.size_alloc]; exact Nat.le_succ _) _) z1)
  clear z1
  go_wp2_with (refine wpList_store_row rfl 24 (.tmp 6) (.tmp 52) rfl (w.heap.size + 1) _ rfl rfl 24 _ hR.out (by kernel_rfl) rfl (one4 _ _ _ _) ?_)
  have kR := cells_of (setRow_heap _ _ _ #[.int .u16 v, .int .u16 t, .int .u8 x, .bool b] _ _ hR.out)
  exact bodyPost_ret (by simp [results, Try.results17, go_sem, kR]) rfl ⟨rfl, Below.setRow hG.out (by omega) _⟩
set_option maxHeartbeats 1000000 in
theorem do_bad_7 (v t x n : Int) (b : Bool) (w : World) (h : ¬ (v ≤ 32767 ∧ t ≤ 32767 ∧ x ≤ 7)) :
    Calls Try.prog 17 #[.agg #[.int .u16 v, .int .u16 t, .int .u8 x, .bool b], .int .i64 7, .int .u8 n] w fun e w' => e = .returned (.tuple #[.agg #[.int .u16 v, .int .u16 t, .int .u8 x, .bool b], .int .i64 1]) ∧ Below w.heap.size w w' := by
  go_enter Try.func17, Try.ntmps17
  go_wp2_with fail
  refine (down_bad v t x b _ h).mono ?_
  rintro e w1 ⟨rfl, z1⟩
  have hR := Lib.hid (new_at (cs := #[.int .u16 0, .int .u16 0, .int .u8 0, .bool false]) (t := 24) (n := w.heap.size + 1) z1 (by rw [World.size_alloc]))
  have hG := Lib.hid (below_call ((Below.refl w.heap.size w).alloc (Nat.le_refl _) _ |>.alloc (by rw [World.size_alloc]; exact Nat.le_succ _) _) z1)
  clear z1
  go_wp2_with (refine wpList_store_row rfl 24 (.tmp 6) (.tmp 58) rfl (w.heap.size + 1) _ rfl rfl 24 _ hR.out (by kernel_rfl) rfl (one4 _ _ _ _) ?_)
  have kR := cells_of (setRow_heap _ _ _ #[.int .u16 v, .int .u16 t, .int .u8 x, .bool b] _ _ hR.out)
  exact bodyPost_ret (by simp [results, Try.results17, go_sem, kR]) rfl ⟨rfl, Below.setRow hG.out (by omega) _⟩
set_option maxHeartbeats 1000000 in
theorem do_bad_8 (v t x n : Int) (b : Bool) (w : World) (h : ¬ (v ≤ 32767 ∧ t ≤ 32767 ∧ x ≤ 7)) :
    Calls Try.prog 17 #[.agg #[.int .u16 v, .int .u16 t, .int .u8 x, .bool b], .int .i64 8, .int .u8 n] w fun e w' => e = .returned (.tuple #[.agg #[.int .u16 v, .int .u16 t, .int .u8 x, .bool b], .int .i64 1]) ∧ Below w.heap.size w w' := by
  go_enter Try.func17, Try.ntmps17
  go_wp2_with fail
  refine (across_bad v t x b _ h).mono ?_
  rintro e w1 ⟨rfl, z1⟩
  have hR := Lib.hid (new_at (cs := #[.int .u16 0, .int .u16 0, .int .u8 0, .bool false]) (t := 24) (n := w.heap.size + 1) z1 (by rw [World.size_alloc]))
  have hG := Lib.hid (below_call ((Below.refl w.heap.size w).alloc (Nat.le_refl _) _ |>.alloc (by rw [World.size_alloc]; exact Nat.le_succ _) _) z1)
  clear z1
  go_wp2_with (refine wpList_store_row rfl 24 (.tmp 6) (.tmp 64) rfl (w.heap.size + 1) _ rfl rfl 24 _ hR.out (by kernel_rfl) rfl (one4 _ _ _ _) ?_)
  have kR := cells_of (setRow_heap _ _ _ #[.int .u16 v, .int .u16 t, .int .u8 x, .bool b] _ _ hR.out)
  exact bodyPost_ret (by simp [results, Try.results17, go_sem, kR]) rfl ⟨rfl, Below.setRow hG.out (by omega) _⟩
set_option maxHeartbeats 1000000 in
theorem do_bad_9 (v t x n : Int) (b : Bool) (w : World) (h : ¬ (v ≤ 32767 ∧ t ≤ 32767 ∧ x ≤ 7)) :
    Calls Try.prog 17 #[.agg #[.int .u16 v, .int .u16 t, .int .u8 x, .bool b], .int .i64 9, .int .u8 n] w fun e w' => e = .returned (.tuple #[.agg #[.int .u16 v, .int .u16 t, .int .u8 x, .bool b], .int .i64 1]) ∧ Below w.heap.size w w' := by
  go_enter Try.func17, Try.ntmps17
  go_wp2_with fail
  refine (top_bad v t x b _ h).mono ?_
  rintro e w1 ⟨rfl, z1⟩
  have hR := Lib.hid (new_at (cs := #[.int .u16 0, .int .u16 0, .int .u8 0, .bool false]) (t := 24) (n := w.heap.size + 1) z1 (by rw [World.size_alloc]))
  have hG := Lib.hid (below_call ((Below.refl w.heap.size w).alloc (Nat.le_refl _) _ |>.alloc (by rw [World.size_alloc]; exact Nat.le_succ _) _) z1)
  clear z1
  go_wp2_with (refine wpList_store_row rfl 24 (.tmp 6) (.tmp 68) rfl (w.heap.size + 1) _ rfl rfl 24 _ hR.out (by kernel_rfl) rfl (one4 _ _ _ _) ?_)
  have kR := cells_of (setRow_heap _ _ _ #[.int .u16 v, .int .u16 t, .int .u8 x, .bool b] _ _ hR.out)
  exact bodyPost_ret (by simp [results, Try.results17, go_sem, kR]) rfl ⟨rfl, Below.setRow hG.out (by omega) _⟩
theorem do_bad (k : Nat) (v t x n : Int) (b : Bool) (w : World) (hk : k < 10) (h : ¬ (v ≤ 32767 ∧ t ≤ 32767 ∧ x ≤ 7)) :
    Calls Try.prog 17 #[.agg #[.int .u16 v, .int .u16 t, .int .u8 x, .bool b], .int .i64 k, .int .u8 n] w fun e w' => e = .returned (.tuple #[.agg #[.int .u16 v, .int .u16 t, .int .u8 x, .bool b], .int .i64 1]) ∧ Below w.heap.size w w' := by
  have e : k = 0 ∨ k = 1 ∨ k = 2 ∨ k = 3 ∨ k = 4 ∨ k = 5 ∨ k = 6 ∨ k = 7 ∨ k = 8 ∨ k = 9 := by omega
  rcases e with rfl | rfl | rfl | rfl | rfl | rfl | rfl | rfl | rfl | rfl
  · exact do_bad_0 v t x n b w h
  · exact do_bad_1 v t x n b w h
  · exact do_bad_2 v t x n b w h
  · exact do_bad_3 v t x n b w h
  · exact do_bad_4 v t x n b w h
  · exact do_bad_5 v t x n b w h
  · exact do_bad_6 v t x n b w h
  · exact do_bad_7 v t x n b w h
  · exact do_bad_8 v t x n b w h
  · exact do_bad_9 v t x n b w h
end Go.Proofs.Ytleggfpcgdpoaaa
