/- The contract of package opcode's cycles, for each mode with each use that it may have. -/
import Derived.Test.YtbekiknbjpdchaaW
namespace Go.Proofs.Ytbekiknbjpdchaa
open Go.ChangeShapes Go.WideShapes Go.ChangeAt Go.RowKit
set_option linter.unusedVariables false
theorem new_last (x : World) (o p : Obj) : ((x.alloc o).alloc p).heap[x.heap.size + 1]? = some p := by
  have h := heap_alloc_new (x.alloc o) p
  rwa [World.size_alloc] at h
theorem setRow_last (w : World) (o : Obj) (c c' : Array Value) (t : TypeId) : ((w.alloc o).alloc (.cells c t)).setRow (w.heap.size + 1) c' = (w.alloc o).alloc (.cells c' t) := by
  have h := World.setRow_alloc_new (w.alloc o) c c' t
  rwa [World.size_alloc] at h
/-- how many cycles -/
def cy (m u : Int) : Int :=
  if u = 0 ∨ m = 2 then (if m = 12 then 5 else if m = 13 then 3 else if m = 14 ∨ m = 15 ∨ m = 16 then 6 else if m = 17 then 7 else if m = 18 then 3 else if m = 19 then 4 else if m = 20 then 0 else 2)
  else (if m = 3 then 3 else if m = 9 then 6 else if m = 10 then 5 else 4) + (if u ≠ 1 ∧ (m = 7 ∨ m = 8 ∨ m = 10) then 1 else 0) + (if u = 3 then 2 else 0)
set_option maxHeartbeats 1000000 in
theorem cy_0_0 (w : World) : Calls Try.prog 17 #[.int .i64 0, .int .i64 0] w fun e w' => e = .returned (.int .i64 2) ∧ Below w.heap.size w w' := by
  go_enter Try.func17, Try.ntmps17
  go_wp2_with (first | (go_at_call 18; refine (crosses_any _ _).mono ?_; rintro e w' ⟨rfl, rfl⟩) | (refine wpList_store_row rfl 44 (.tmp 5) (.tmp 8) rfl w.heap.size _ rfl rfl 44 _ (heap_alloc_new _ _) (by kernel_rfl) rfl (by kernel_rfl) ?_; rw [World.setRow_alloc_new]) | (refine wpList_store_row rfl 45 (.tmp 6) (.tmp 9) rfl (w.heap.size + 1) _ rfl rfl 45 _ (new_last _ _ _) (by kernel_rfl) rfl (by kernel_rfl) ?_; rw [setRow_last]))
  go_ret
  exact ⟨rfl, by go_grown⟩
set_option maxHeartbeats 1000000 in
theorem cy_1_0 (w : World) : Calls Try.prog 17 #[.int .i64 1, .int .i64 0] w fun e w' => e = .returned (.int .i64 2) ∧ Below w.heap.size w w' := by
  go_enter Try.func17, Try.ntmps17
  go_wp2_with (first | (go_at_call 18; refine (crosses_any _ _).mono ?_; rintro e w' ⟨rfl, rfl⟩) | (refine wpList_store_row rfl 44 (.tmp 5) (.tmp 8) rfl w.heap.size _ rfl rfl 44 _ (heap_alloc_new _ _) (by kernel_rfl) rfl (by kernel_rfl) ?_; rw [World.setRow_alloc_new]) | (refine wpList_store_row rfl 45 (.tmp 6) (.tmp 9) rfl (w.heap.size + 1) _ rfl rfl 45 _ (new_last _ _ _) (by kernel_rfl) rfl (by kernel_rfl) ?_; rw [setRow_last]))
  go_ret
  exact ⟨rfl, by go_grown⟩
set_option maxHeartbeats 1000000 in
theorem cy_11_0 (w : World) : Calls Try.prog 17 #[.int .i64 11, .int .i64 0] w fun e w' => e = .returned (.int .i64 2) ∧ Below w.heap.size w w' := by
  go_enter Try.func17, Try.ntmps17
  go_wp2_with (first | (go_at_call 18; refine (crosses_any _ _).mono ?_; rintro e w' ⟨rfl, rfl⟩) | (refine wpList_store_row rfl 44 (.tmp 5) (.tmp 8) rfl w.heap.size _ rfl rfl 44 _ (heap_alloc_new _ _) (by kernel_rfl) rfl (by kernel_rfl) ?_; rw [World.setRow_alloc_new]) | (refine wpList_store_row rfl 45 (.tmp 6) (.tmp 9) rfl (w.heap.size + 1) _ rfl rfl 45 _ (new_last _ _ _) (by kernel_rfl) rfl (by kernel_rfl) ?_; rw [setRow_last]))
  go_ret
  exact ⟨rfl, by go_grown⟩
set_option maxHeartbeats 1000000 in
theorem cy_12_0 (w : World) : Calls Try.prog 17 #[.int .i64 12, .int .i64 0] w fun e w' => e = .returned (.int .i64 5) ∧ Below w.heap.size w w' := by
  go_enter Try.func17, Try.ntmps17
  go_wp2_with (first | (go_at_call 18; refine (crosses_any _ _).mono ?_; rintro e w' ⟨rfl, rfl⟩) | (refine wpList_store_row rfl 44 (.tmp 5) (.tmp 8) rfl w.heap.size _ rfl rfl 44 _ (heap_alloc_new _ _) (by kernel_rfl) rfl (by kernel_rfl) ?_; rw [World.setRow_alloc_new]) | (refine wpList_store_row rfl 45 (.tmp 6) (.tmp 9) rfl (w.heap.size + 1) _ rfl rfl 45 _ (new_last _ _ _) (by kernel_rfl) rfl (by kernel_rfl) ?_; rw [setRow_last]))
  go_ret
  exact ⟨rfl, by go_grown⟩
set_option maxHeartbeats 1000000 in
theorem cy_13_0 (w : World) : Calls Try.prog 17 #[.int .i64 13, .int .i64 0] w fun e w' => e = .returned (.int .i64 3) ∧ Below w.heap.size w w' := by
  go_enter Try.func17, Try.ntmps17
  go_wp2_with (first | (go_at_call 18; refine (crosses_any _ _).mono ?_; rintro e w' ⟨rfl, rfl⟩) | (refine wpList_store_row rfl 44 (.tmp 5) (.tmp 8) rfl w.heap.size _ rfl rfl 44 _ (heap_alloc_new _ _) (by kernel_rfl) rfl (by kernel_rfl) ?_; rw [World.setRow_alloc_new]) | (refine wpList_store_row rfl 45 (.tmp 6) (.tmp 9) rfl (w.heap.size + 1) _ rfl rfl 45 _ (new_last _ _ _) (by kernel_rfl) rfl (by kernel_rfl) ?_; rw [setRow_last]))
  go_ret
  exact ⟨rfl, by go_grown⟩
set_option maxHeartbeats 1000000 in
theorem cy_14_0 (w : World) : Calls Try.prog 17 #[.int .i64 14, .int .i64 0] w fun e w' => e = .returned (.int .i64 6) ∧ Below w.heap.size w w' := by
  go_enter Try.func17, Try.ntmps17
  go_wp2_with (first | (go_at_call 18; refine (crosses_any _ _).mono ?_; rintro e w' ⟨rfl, rfl⟩) | (refine wpList_store_row rfl 44 (.tmp 5) (.tmp 8) rfl w.heap.size _ rfl rfl 44 _ (heap_alloc_new _ _) (by kernel_rfl) rfl (by kernel_rfl) ?_; rw [World.setRow_alloc_new]) | (refine wpList_store_row rfl 45 (.tmp 6) (.tmp 9) rfl (w.heap.size + 1) _ rfl rfl 45 _ (new_last _ _ _) (by kernel_rfl) rfl (by kernel_rfl) ?_; rw [setRow_last]))
  go_ret
  exact ⟨rfl, by go_grown⟩
set_option maxHeartbeats 1000000 in
theorem cy_15_0 (w : World) : Calls Try.prog 17 #[.int .i64 15, .int .i64 0] w fun e w' => e = .returned (.int .i64 6) ∧ Below w.heap.size w w' := by
  go_enter Try.func17, Try.ntmps17
  go_wp2_with (first | (go_at_call 18; refine (crosses_any _ _).mono ?_; rintro e w' ⟨rfl, rfl⟩) | (refine wpList_store_row rfl 44 (.tmp 5) (.tmp 8) rfl w.heap.size _ rfl rfl 44 _ (heap_alloc_new _ _) (by kernel_rfl) rfl (by kernel_rfl) ?_; rw [World.setRow_alloc_new]) | (refine wpList_store_row rfl 45 (.tmp 6) (.tmp 9) rfl (w.heap.size + 1) _ rfl rfl 45 _ (new_last _ _ _) (by kernel_rfl) rfl (by kernel_rfl) ?_; rw [setRow_last]))
  go_ret
  exact ⟨rfl, by go_grown⟩
set_option maxHeartbeats 1000000 in
theorem cy_16_0 (w : World) : Calls Try.prog 17 #[.int .i64 16, .int .i64 0] w fun e w' => e = .returned (.int .i64 6) ∧ Below w.heap.size w w' := by
  go_enter Try.func17, Try.ntmps17
  go_wp2_with (first | (go_at_call 18; refine (crosses_any _ _).mono ?_; rintro e w' ⟨rfl, rfl⟩) | (refine wpList_store_row rfl 44 (.tmp 5) (.tmp 8) rfl w.heap.size _ rfl rfl 44 _ (heap_alloc_new _ _) (by kernel_rfl) rfl (by kernel_rfl) ?_; rw [World.setRow_alloc_new]) | (refine wpList_store_row rfl 45 (.tmp 6) (.tmp 9) rfl (w.heap.size + 1) _ rfl rfl 45 _ (new_last _ _ _) (by kernel_rfl) rfl (by kernel_rfl) ?_; rw [setRow_last]))
  go_ret
  exact ⟨rfl, by go_grown⟩
set_option maxHeartbeats 1000000 in
theorem cy_17_0 (w : World) : Calls Try.prog 17 #[.int .i64 17, .int .i64 0] w fun e w' => e = .returned (.int .i64 7) ∧ Below w.heap.size w w' := by
  go_enter Try.func17, Try.ntmps17
  go_wp2_with (first | (go_at_call 18; refine (crosses_any _ _).mono ?_; rintro e w' ⟨rfl, rfl⟩) | (refine wpList_store_row rfl 44 (.tmp 5) (.tmp 8) rfl w.heap.size _ rfl rfl 44 _ (heap_alloc_new _ _) (by kernel_rfl) rfl (by kernel_rfl) ?_; rw [World.setRow_alloc_new]) | (refine wpList_store_row rfl 45 (.tmp 6) (.tmp 9) rfl (w.heap.size + 1) _ rfl rfl 45 _ (new_last _ _ _) (by kernel_rfl) rfl (by kernel_rfl) ?_; rw [setRow_last]))
  go_ret
  exact ⟨rfl, by go_grown⟩
set_option maxHeartbeats 1000000 in
theorem cy_18_0 (w : World) : Calls Try.prog 17 #[.int .i64 18, .int .i64 0] w fun e w' => e = .returned (.int .i64 3) ∧ Below w.heap.size w w' := by
  go_enter Try.func17, Try.ntmps17
  go_wp2_with (first | (go_at_call 18; refine (crosses_any _ _).mono ?_; rintro e w' ⟨rfl, rfl⟩) | (refine wpList_store_row rfl 44 (.tmp 5) (.tmp 8) rfl w.heap.size _ rfl rfl 44 _ (heap_alloc_new _ _) (by kernel_rfl) rfl (by kernel_rfl) ?_; rw [World.setRow_alloc_new]) | (refine wpList_store_row rfl 45 (.tmp 6) (.tmp 9) rfl (w.heap.size + 1) _ rfl rfl 45 _ (new_last _ _ _) (by kernel_rfl) rfl (by kernel_rfl) ?_; rw [setRow_last]))
  go_ret
  exact ⟨rfl, by go_grown⟩
set_option maxHeartbeats 1000000 in
theorem cy_19_0 (w : World) : Calls Try.prog 17 #[.int .i64 19, .int .i64 0] w fun e w' => e = .returned (.int .i64 4) ∧ Below w.heap.size w w' := by
  go_enter Try.func17, Try.ntmps17
  go_wp2_with (first | (go_at_call 18; refine (crosses_any _ _).mono ?_; rintro e w' ⟨rfl, rfl⟩) | (refine wpList_store_row rfl 44 (.tmp 5) (.tmp 8) rfl w.heap.size _ rfl rfl 44 _ (heap_alloc_new _ _) (by kernel_rfl) rfl (by kernel_rfl) ?_; rw [World.setRow_alloc_new]) | (refine wpList_store_row rfl 45 (.tmp 6) (.tmp 9) rfl (w.heap.size + 1) _ rfl rfl 45 _ (new_last _ _ _) (by kernel_rfl) rfl (by kernel_rfl) ?_; rw [setRow_last]))
  go_ret
  exact ⟨rfl, by go_grown⟩
set_option maxHeartbeats 1000000 in
theorem cy_20_0 (w : World) : Calls Try.prog 17 #[.int .i64 20, .int .i64 0] w fun e w' => e = .returned (.int .i64 0) ∧ Below w.heap.size w w' := by
  go_enter Try.func17, Try.ntmps17
  go_wp2_with (first | (go_at_call 18; refine (crosses_any _ _).mono ?_; rintro e w' ⟨rfl, rfl⟩) | (refine wpList_store_row rfl 44 (.tmp 5) (.tmp 8) rfl w.heap.size _ rfl rfl 44 _ (heap_alloc_new _ _) (by kernel_rfl) rfl (by kernel_rfl) ?_; rw [World.setRow_alloc_new]) | (refine wpList_store_row rfl 45 (.tmp 6) (.tmp 9) rfl (w.heap.size + 1) _ rfl rfl 45 _ (new_last _ _ _) (by kernel_rfl) rfl (by kernel_rfl) ?_; rw [setRow_last]))
  go_ret
  exact ⟨rfl, by go_grown⟩
set_option maxHeartbeats 1000000 in
theorem cy_2_1 (w : World) : Calls Try.prog 17 #[.int .i64 2, .int .i64 1] w fun e w' => e = .returned (.int .i64 2) ∧ Below w.heap.size w w' := by
  go_enter Try.func17, Try.ntmps17
  go_wp2_with (first | (go_at_call 18; refine (crosses_any _ _).mono ?_; rintro e w' ⟨rfl, rfl⟩) | (refine wpList_store_row rfl 44 (.tmp 5) (.tmp 8) rfl w.heap.size _ rfl rfl 44 _ (heap_alloc_new _ _) (by kernel_rfl) rfl (by kernel_rfl) ?_; rw [World.setRow_alloc_new]) | (refine wpList_store_row rfl 45 (.tmp 6) (.tmp 9) rfl (w.heap.size + 1) _ rfl rfl 45 _ (new_last _ _ _) (by kernel_rfl) rfl (by kernel_rfl) ?_; rw [setRow_last]))
  go_ret
  exact ⟨rfl, by go_grown⟩
set_option maxHeartbeats 1000000 in
theorem cy_2_2 (w : World) : Calls Try.prog 17 #[.int .i64 2, .int .i64 2] w fun e w' => e = .returned (.int .i64 2) ∧ Below w.heap.size w w' := by
  go_enter Try.func17, Try.ntmps17
  go_wp2_with (first | (go_at_call 18; refine (crosses_any _ _).mono ?_; rintro e w' ⟨rfl, rfl⟩) | (refine wpList_store_row rfl 44 (.tmp 5) (.tmp 8) rfl w.heap.size _ rfl rfl 44 _ (heap_alloc_new _ _) (by kernel_rfl) rfl (by kernel_rfl) ?_; rw [World.setRow_alloc_new]) | (refine wpList_store_row rfl 45 (.tmp 6) (.tmp 9) rfl (w.heap.size + 1) _ rfl rfl 45 _ (new_last _ _ _) (by kernel_rfl) rfl (by kernel_rfl) ?_; rw [setRow_last]))
  go_ret
  exact ⟨rfl, by go_grown⟩
set_option maxHeartbeats 1000000 in
theorem cy_2_3 (w : World) : Calls Try.prog 17 #[.int .i64 2, .int .i64 3] w fun e w' => e = .returned (.int .i64 2) ∧ Below w.heap.size w w' := by
  go_enter Try.func17, Try.ntmps17
  go_wp2_with (first | (go_at_call 18; refine (crosses_any _ _).mono ?_; rintro e w' ⟨rfl, rfl⟩) | (refine wpList_store_row rfl 44 (.tmp 5) (.tmp 8) rfl w.heap.size _ rfl rfl 44 _ (heap_alloc_new _ _) (by kernel_rfl) rfl (by kernel_rfl) ?_; rw [World.setRow_alloc_new]) | (refine wpList_store_row rfl 45 (.tmp 6) (.tmp 9) rfl (w.heap.size + 1) _ rfl rfl 45 _ (new_last _ _ _) (by kernel_rfl) rfl (by kernel_rfl) ?_; rw [setRow_last]))
  go_ret
  exact ⟨rfl, by go_grown⟩
set_option maxHeartbeats 1000000 in
theorem cy_3_1 (w : World) : Calls Try.prog 17 #[.int .i64 3, .int .i64 1] w fun e w' => e = .returned (.int .i64 3) ∧ Below w.heap.size w w' := by
  go_enter Try.func17, Try.ntmps17
  go_wp2_with (first | (go_at_call 18; refine (crosses_any _ _).mono ?_; rintro e w' ⟨rfl, rfl⟩) | (refine wpList_store_row rfl 44 (.tmp 5) (.tmp 8) rfl w.heap.size _ rfl rfl 44 _ (heap_alloc_new _ _) (by kernel_rfl) rfl (by kernel_rfl) ?_; rw [World.setRow_alloc_new]) | (refine wpList_store_row rfl 45 (.tmp 6) (.tmp 9) rfl (w.heap.size + 1) _ rfl rfl 45 _ (new_last _ _ _) (by kernel_rfl) rfl (by kernel_rfl) ?_; rw [setRow_last]))
  go_ret
  exact ⟨rfl, by go_grown⟩
set_option maxHeartbeats 1000000 in
theorem cy_3_2 (w : World) : Calls Try.prog 17 #[.int .i64 3, .int .i64 2] w fun e w' => e = .returned (.int .i64 3) ∧ Below w.heap.size w w' := by
  go_enter Try.func17, Try.ntmps17
  go_wp2_with (first | (go_at_call 18; refine (crosses_any _ _).mono ?_; rintro e w' ⟨rfl, rfl⟩) | (refine wpList_store_row rfl 44 (.tmp 5) (.tmp 8) rfl w.heap.size _ rfl rfl 44 _ (heap_alloc_new _ _) (by kernel_rfl) rfl (by kernel_rfl) ?_; rw [World.setRow_alloc_new]) | (refine wpList_store_row rfl 45 (.tmp 6) (.tmp 9) rfl (w.heap.size + 1) _ rfl rfl 45 _ (new_last _ _ _) (by kernel_rfl) rfl (by kernel_rfl) ?_; rw [setRow_last]))
  go_ret
  exact ⟨rfl, by go_grown⟩
set_option maxHeartbeats 1000000 in
theorem cy_3_3 (w : World) : Calls Try.prog 17 #[.int .i64 3, .int .i64 3] w fun e w' => e = .returned (.int .i64 5) ∧ Below w.heap.size w w' := by
  go_enter Try.func17, Try.ntmps17
  go_wp2_with (first | (go_at_call 18; refine (crosses_any _ _).mono ?_; rintro e w' ⟨rfl, rfl⟩) | (refine wpList_store_row rfl 44 (.tmp 5) (.tmp 8) rfl w.heap.size _ rfl rfl 44 _ (heap_alloc_new _ _) (by kernel_rfl) rfl (by kernel_rfl) ?_; rw [World.setRow_alloc_new]) | (refine wpList_store_row rfl 45 (.tmp 6) (.tmp 9) rfl (w.heap.size + 1) _ rfl rfl 45 _ (new_last _ _ _) (by kernel_rfl) rfl (by kernel_rfl) ?_; rw [setRow_last]))
  go_ret
  exact ⟨rfl, by go_grown⟩
set_option maxHeartbeats 1000000 in
theorem cy_4_1 (w : World) : Calls Try.prog 17 #[.int .i64 4, .int .i64 1] w fun e w' => e = .returned (.int .i64 4) ∧ Below w.heap.size w w' := by
  go_enter Try.func17, Try.ntmps17
  go_wp2_with (first | (go_at_call 18; refine (crosses_any _ _).mono ?_; rintro e w' ⟨rfl, rfl⟩) | (refine wpList_store_row rfl 44 (.tmp 5) (.tmp 8) rfl w.heap.size _ rfl rfl 44 _ (heap_alloc_new _ _) (by kernel_rfl) rfl (by kernel_rfl) ?_; rw [World.setRow_alloc_new]) | (refine wpList_store_row rfl 45 (.tmp 6) (.tmp 9) rfl (w.heap.size + 1) _ rfl rfl 45 _ (new_last _ _ _) (by kernel_rfl) rfl (by kernel_rfl) ?_; rw [setRow_last]))
  go_ret
  exact ⟨rfl, by go_grown⟩
set_option maxHeartbeats 1000000 in
theorem cy_4_2 (w : World) : Calls Try.prog 17 #[.int .i64 4, .int .i64 2] w fun e w' => e = .returned (.int .i64 4) ∧ Below w.heap.size w w' := by
  go_enter Try.func17, Try.ntmps17
  go_wp2_with (first | (go_at_call 18; refine (crosses_any _ _).mono ?_; rintro e w' ⟨rfl, rfl⟩) | (refine wpList_store_row rfl 44 (.tmp 5) (.tmp 8) rfl w.heap.size _ rfl rfl 44 _ (heap_alloc_new _ _) (by kernel_rfl) rfl (by kernel_rfl) ?_; rw [World.setRow_alloc_new]) | (refine wpList_store_row rfl 45 (.tmp 6) (.tmp 9) rfl (w.heap.size + 1) _ rfl rfl 45 _ (new_last _ _ _) (by kernel_rfl) rfl (by kernel_rfl) ?_; rw [setRow_last]))
  go_ret
  exact ⟨rfl, by go_grown⟩
set_option maxHeartbeats 1000000 in
theorem cy_4_3 (w : World) : Calls Try.prog 17 #[.int .i64 4, .int .i64 3] w fun e w' => e = .returned (.int .i64 6) ∧ Below w.heap.size w w' := by
  go_enter Try.func17, Try.ntmps17
  go_wp2_with (first | (go_at_call 18; refine (crosses_any _ _).mono ?_; rintro e w' ⟨rfl, rfl⟩) | (refine wpList_store_row rfl 44 (.tmp 5) (.tmp 8) rfl w.heap.size _ rfl rfl 44 _ (heap_alloc_new _ _) (by kernel_rfl) rfl (by kernel_rfl) ?_; rw [World.setRow_alloc_new]) | (refine wpList_store_row rfl 45 (.tmp 6) (.tmp 9) rfl (w.heap.size + 1) _ rfl rfl 45 _ (new_last _ _ _) (by kernel_rfl) rfl (by kernel_rfl) ?_; rw [setRow_last]))
  go_ret
  exact ⟨rfl, by go_grown⟩
set_option maxHeartbeats 1000000 in
theorem cy_5_1 (w : World) : Calls Try.prog 17 #[.int .i64 5, .int .i64 1] w fun e w' => e = .returned (.int .i64 4) ∧ Below w.heap.size w w' := by
  go_enter Try.func17, Try.ntmps17
  go_wp2_with (first | (go_at_call 18; refine (crosses_any _ _).mono ?_; rintro e w' ⟨rfl, rfl⟩) | (refine wpList_store_row rfl 44 (.tmp 5) (.tmp 8) rfl w.heap.size _ rfl rfl 44 _ (heap_alloc_new _ _) (by kernel_rfl) rfl (by kernel_rfl) ?_; rw [World.setRow_alloc_new]) | (refine wpList_store_row rfl 45 (.tmp 6) (.tmp 9) rfl (w.heap.size + 1) _ rfl rfl 45 _ (new_last _ _ _) (by kernel_rfl) rfl (by kernel_rfl) ?_; rw [setRow_last]))
  go_ret
  exact ⟨rfl, by go_grown⟩
set_option maxHeartbeats 1000000 in
theorem cy_5_2 (w : World) : Calls Try.prog 17 #[.int .i64 5, .int .i64 2] w fun e w' => e = .returned (.int .i64 4) ∧ Below w.heap.size w w' := by
  go_enter Try.func17, Try.ntmps17
  go_wp2_with (first | (go_at_call 18; refine (crosses_any _ _).mono ?_; rintro e w' ⟨rfl, rfl⟩) | (refine wpList_store_row rfl 44 (.tmp 5) (.tmp 8) rfl w.heap.size _ rfl rfl 44 _ (heap_alloc_new _ _) (by kernel_rfl) rfl (by kernel_rfl) ?_; rw [World.setRow_alloc_new]) | (refine wpList_store_row rfl 45 (.tmp 6) (.tmp 9) rfl (w.heap.size + 1) _ rfl rfl 45 _ (new_last _ _ _) (by kernel_rfl) rfl (by kernel_rfl) ?_; rw [setRow_last]))
  go_ret
  exact ⟨rfl, by go_grown⟩
set_option maxHeartbeats 1000000 in
theorem cy_5_3 (w : World) : Calls Try.prog 17 #[.int .i64 5, .int .i64 3] w fun e w' => e = .returned (.int .i64 6) ∧ Below w.heap.size w w' := by
  go_enter Try.func17, Try.ntmps17
  go_wp2_with (first | (go_at_call 18; refine (crosses_any _ _).mono ?_; rintro e w' ⟨rfl, rfl⟩) | (refine wpList_store_row rfl 44 (.tmp 5) (.tmp 8) rfl w.heap.size _ rfl rfl 44 _ (heap_alloc_new _ _) (by kernel_rfl) rfl (by kernel_rfl) ?_; rw [World.setRow_alloc_new]) | (refine wpList_store_row rfl 45 (.tmp 6) (.tmp 9) rfl (w.heap.size + 1) _ rfl rfl 45 _ (new_last _ _ _) (by kernel_rfl) rfl (by kernel_rfl) ?_; rw [setRow_last]))
  go_ret
  exact ⟨rfl, by go_grown⟩
set_option maxHeartbeats 1000000 in
theorem cy_6_1 (w : World) : Calls Try.prog 17 #[.int .i64 6, .int .i64 1] w fun e w' => e = .returned (.int .i64 4) ∧ Below w.heap.size w w' := by
  go_enter Try.func17, Try.ntmps17
  go_wp2_with (first | (go_at_call 18; refine (crosses_any _ _).mono ?_; rintro e w' ⟨rfl, rfl⟩) | (refine wpList_store_row rfl 44 (.tmp 5) (.tmp 8) rfl w.heap.size _ rfl rfl 44 _ (heap_alloc_new _ _) (by kernel_rfl) rfl (by kernel_rfl) ?_; rw [World.setRow_alloc_new]) | (refine wpList_store_row rfl 45 (.tmp 6) (.tmp 9) rfl (w.heap.size + 1) _ rfl rfl 45 _ (new_last _ _ _) (by kernel_rfl) rfl (by kernel_rfl) ?_; rw [setRow_last]))
  go_ret
  exact ⟨rfl, by go_grown⟩
set_option maxHeartbeats 1000000 in
theorem cy_6_2 (w : World) : Calls Try.prog 17 #[.int .i64 6, .int .i64 2] w fun e w' => e = .returned (.int .i64 4) ∧ Below w.heap.size w w' := by
  go_enter Try.func17, Try.ntmps17
  go_wp2_with (first | (go_at_call 18; refine (crosses_any _ _).mono ?_; rintro e w' ⟨rfl, rfl⟩) | (refine wpList_store_row rfl 44 (.tmp 5) (.tmp 8) rfl w.heap.size _ rfl rfl 44 _ (heap_alloc_new _ _) (by kernel_rfl) rfl (by kernel_rfl) ?_; rw [World.setRow_alloc_new]) | (refine wpList_store_row rfl 45 (.tmp 6) (.tmp 9) rfl (w.heap.size + 1) _ rfl rfl 45 _ (new_last _ _ _) (by kernel_rfl) rfl (by kernel_rfl) ?_; rw [setRow_last]))
  go_ret
  exact ⟨rfl, by go_grown⟩
set_option maxHeartbeats 1000000 in
theorem cy_6_3 (w : World) : Calls Try.prog 17 #[.int .i64 6, .int .i64 3] w fun e w' => e = .returned (.int .i64 6) ∧ Below w.heap.size w w' := by
  go_enter Try.func17, Try.ntmps17
  go_wp2_with (first | (go_at_call 18; refine (crosses_any _ _).mono ?_; rintro e w' ⟨rfl, rfl⟩) | (refine wpList_store_row rfl 44 (.tmp 5) (.tmp 8) rfl w.heap.size _ rfl rfl 44 _ (heap_alloc_new _ _) (by kernel_rfl) rfl (by kernel_rfl) ?_; rw [World.setRow_alloc_new]) | (refine wpList_store_row rfl 45 (.tmp 6) (.tmp 9) rfl (w.heap.size + 1) _ rfl rfl 45 _ (new_last _ _ _) (by kernel_rfl) rfl (by kernel_rfl) ?_; rw [setRow_last]))
  go_ret
  exact ⟨rfl, by go_grown⟩
set_option maxHeartbeats 1000000 in
theorem cy_7_1 (w : World) : Calls Try.prog 17 #[.int .i64 7, .int .i64 1] w fun e w' => e = .returned (.int .i64 4) ∧ Below w.heap.size w w' := by
  go_enter Try.func17, Try.ntmps17
  go_wp2_with (first | (go_at_call 18; refine (crosses_any _ _).mono ?_; rintro e w' ⟨rfl, rfl⟩) | (refine wpList_store_row rfl 44 (.tmp 5) (.tmp 8) rfl w.heap.size _ rfl rfl 44 _ (heap_alloc_new _ _) (by kernel_rfl) rfl (by kernel_rfl) ?_; rw [World.setRow_alloc_new]) | (refine wpList_store_row rfl 45 (.tmp 6) (.tmp 9) rfl (w.heap.size + 1) _ rfl rfl 45 _ (new_last _ _ _) (by kernel_rfl) rfl (by kernel_rfl) ?_; rw [setRow_last]))
  go_ret
  exact ⟨rfl, by go_grown⟩
set_option maxHeartbeats 1000000 in
theorem cy_7_2 (w : World) : Calls Try.prog 17 #[.int .i64 7, .int .i64 2] w fun e w' => e = .returned (.int .i64 5) ∧ Below w.heap.size w w' := by
  go_enter Try.func17, Try.ntmps17
  go_wp2_with (first | (go_at_call 18; refine (crosses_any _ _).mono ?_; rintro e w' ⟨rfl, rfl⟩) | (refine wpList_store_row rfl 44 (.tmp 5) (.tmp 8) rfl w.heap.size _ rfl rfl 44 _ (heap_alloc_new _ _) (by kernel_rfl) rfl (by kernel_rfl) ?_; rw [World.setRow_alloc_new]) | (refine wpList_store_row rfl 45 (.tmp 6) (.tmp 9) rfl (w.heap.size + 1) _ rfl rfl 45 _ (new_last _ _ _) (by kernel_rfl) rfl (by kernel_rfl) ?_; rw [setRow_last]))
  go_ret
  exact ⟨rfl, by go_grown⟩
set_option maxHeartbeats 1000000 in
theorem cy_7_3 (w : World) : Calls Try.prog 17 #[.int .i64 7, .int .i64 3] w fun e w' => e = .returned (.int .i64 7) ∧ Below w.heap.size w w' := by
  go_enter Try.func17, Try.ntmps17
  go_wp2_with (first | (go_at_call 18; refine (crosses_any _ _).mono ?_; rintro e w' ⟨rfl, rfl⟩) | (refine wpList_store_row rfl 44 (.tmp 5) (.tmp 8) rfl w.heap.size _ rfl rfl 44 _ (heap_alloc_new _ _) (by kernel_rfl) rfl (by kernel_rfl) ?_; rw [World.setRow_alloc_new]) | (refine wpList_store_row rfl 45 (.tmp 6) (.tmp 9) rfl (w.heap.size + 1) _ rfl rfl 45 _ (new_last _ _ _) (by kernel_rfl) rfl (by kernel_rfl) ?_; rw [setRow_last]))
  go_ret
  exact ⟨rfl, by go_grown⟩
set_option maxHeartbeats 1000000 in
theorem cy_8_1 (w : World) : Calls Try.prog 17 #[.int .i64 8, .int .i64 1] w fun e w' => e = .returned (.int .i64 4) ∧ Below w.heap.size w w' := by
  go_enter Try.func17, Try.ntmps17
  go_wp2_with (first | (go_at_call 18; refine (crosses_any _ _).mono ?_; rintro e w' ⟨rfl, rfl⟩) | (refine wpList_store_row rfl 44 (.tmp 5) (.tmp 8) rfl w.heap.size _ rfl rfl 44 _ (heap_alloc_new _ _) (by kernel_rfl) rfl (by kernel_rfl) ?_; rw [World.setRow_alloc_new]) | (refine wpList_store_row rfl 45 (.tmp 6) (.tmp 9) rfl (w.heap.size + 1) _ rfl rfl 45 _ (new_last _ _ _) (by kernel_rfl) rfl (by kernel_rfl) ?_; rw [setRow_last]))
  go_ret
  exact ⟨rfl, by go_grown⟩
set_option maxHeartbeats 1000000 in
theorem cy_8_2 (w : World) : Calls Try.prog 17 #[.int .i64 8, .int .i64 2] w fun e w' => e = .returned (.int .i64 5) ∧ Below w.heap.size w w' := by
  go_enter Try.func17, Try.ntmps17
  go_wp2_with (first | (go_at_call 18; refine (crosses_any _ _).mono ?_; rintro e w' ⟨rfl, rfl⟩) | (refine wpList_store_row rfl 44 (.tmp 5) (.tmp 8) rfl w.heap.size _ rfl rfl 44 _ (heap_alloc_new _ _) (by kernel_rfl) rfl (by kernel_rfl) ?_; rw [World.setRow_alloc_new]) | (refine wpList_store_row rfl 45 (.tmp 6) (.tmp 9) rfl (w.heap.size + 1) _ rfl rfl 45 _ (new_last _ _ _) (by kernel_rfl) rfl (by kernel_rfl) ?_; rw [setRow_last]))
  go_ret
  exact ⟨rfl, by go_grown⟩
set_option maxHeartbeats 1000000 in
theorem cy_8_3 (w : World) : Calls Try.prog 17 #[.int .i64 8, .int .i64 3] w fun e w' => e = .returned (.int .i64 7) ∧ Below w.heap.size w w' := by
  go_enter Try.func17, Try.ntmps17
  go_wp2_with (first | (go_at_call 18; refine (crosses_any _ _).mono ?_; rintro e w' ⟨rfl, rfl⟩) | (refine wpList_store_row rfl 44 (.tmp 5) (.tmp 8) rfl w.heap.size _ rfl rfl 44 _ (heap_alloc_new _ _) (by kernel_rfl) rfl (by kernel_rfl) ?_; rw [World.setRow_alloc_new]) | (refine wpList_store_row rfl 45 (.tmp 6) (.tmp 9) rfl (w.heap.size + 1) _ rfl rfl 45 _ (new_last _ _ _) (by kernel_rfl) rfl (by kernel_rfl) ?_; rw [setRow_last]))
  go_ret
  exact ⟨rfl, by go_grown⟩
set_option maxHeartbeats 1000000 in
theorem cy_9_1 (w : World) : Calls Try.prog 17 #[.int .i64 9, .int .i64 1] w fun e w' => e = .returned (.int .i64 6) ∧ Below w.heap.size w w' := by
  go_enter Try.func17, Try.ntmps17
  go_wp2_with (first | (go_at_call 18; refine (crosses_any _ _).mono ?_; rintro e w' ⟨rfl, rfl⟩) | (refine wpList_store_row rfl 44 (.tmp 5) (.tmp 8) rfl w.heap.size _ rfl rfl 44 _ (heap_alloc_new _ _) (by kernel_rfl) rfl (by kernel_rfl) ?_; rw [World.setRow_alloc_new]) | (refine wpList_store_row rfl 45 (.tmp 6) (.tmp 9) rfl (w.heap.size + 1) _ rfl rfl 45 _ (new_last _ _ _) (by kernel_rfl) rfl (by kernel_rfl) ?_; rw [setRow_last]))
  go_ret
  exact ⟨rfl, by go_grown⟩
set_option maxHeartbeats 1000000 in
theorem cy_9_2 (w : World) : Calls Try.prog 17 #[.int .i64 9, .int .i64 2] w fun e w' => e = .returned (.int .i64 6) ∧ Below w.heap.size w w' := by
  go_enter Try.func17, Try.ntmps17
  go_wp2_with (first | (go_at_call 18; refine (crosses_any _ _).mono ?_; rintro e w' ⟨rfl, rfl⟩) | (refine wpList_store_row rfl 44 (.tmp 5) (.tmp 8) rfl w.heap.size _ rfl rfl 44 _ (heap_alloc_new _ _) (by kernel_rfl) rfl (by kernel_rfl) ?_; rw [World.setRow_alloc_new]) | (refine wpList_store_row rfl 45 (.tmp 6) (.tmp 9) rfl (w.heap.size + 1) _ rfl rfl 45 _ (new_last _ _ _) (by kernel_rfl) rfl (by kernel_rfl) ?_; rw [setRow_last]))
  go_ret
  exact ⟨rfl, by go_grown⟩
set_option maxHeartbeats 1000000 in
theorem cy_9_3 (w : World) : Calls Try.prog 17 #[.int .i64 9, .int .i64 3] w fun e w' => e = .returned (.int .i64 8) ∧ Below w.heap.size w w' := by
  go_enter Try.func17, Try.ntmps17
  go_wp2_with (first | (go_at_call 18; refine (crosses_any _ _).mono ?_; rintro e w' ⟨rfl, rfl⟩) | (refine wpList_store_row rfl 44 (.tmp 5) (.tmp 8) rfl w.heap.size _ rfl rfl 44 _ (heap_alloc_new _ _) (by kernel_rfl) rfl (by kernel_rfl) ?_; rw [World.setRow_alloc_new]) | (refine wpList_store_row rfl 45 (.tmp 6) (.tmp 9) rfl (w.heap.size + 1) _ rfl rfl 45 _ (new_last _ _ _) (by kernel_rfl) rfl (by kernel_rfl) ?_; rw [setRow_last]))
  go_ret
  exact ⟨rfl, by go_grown⟩
set_option maxHeartbeats 1000000 in
theorem cy_10_1 (w : World) : Calls Try.prog 17 #[.int .i64 10, .int .i64 1] w fun e w' => e = .returned (.int .i64 5) ∧ Below w.heap.size w w' := by
  go_enter Try.func17, Try.ntmps17
  go_wp2_with (first | (go_at_call 18; refine (crosses_any _ _).mono ?_; rintro e w' ⟨rfl, rfl⟩) | (refine wpList_store_row rfl 44 (.tmp 5) (.tmp 8) rfl w.heap.size _ rfl rfl 44 _ (heap_alloc_new _ _) (by kernel_rfl) rfl (by kernel_rfl) ?_; rw [World.setRow_alloc_new]) | (refine wpList_store_row rfl 45 (.tmp 6) (.tmp 9) rfl (w.heap.size + 1) _ rfl rfl 45 _ (new_last _ _ _) (by kernel_rfl) rfl (by kernel_rfl) ?_; rw [setRow_last]))
  go_ret
  exact ⟨rfl, by go_grown⟩
set_option maxHeartbeats 1000000 in
theorem cy_10_2 (w : World) : Calls Try.prog 17 #[.int .i64 10, .int .i64 2] w fun e w' => e = .returned (.int .i64 6) ∧ Below w.heap.size w w' := by
  go_enter Try.func17, Try.ntmps17
  go_wp2_with (first | (go_at_call 18; refine (crosses_any _ _).mono ?_; rintro e w' ⟨rfl, rfl⟩) | (refine wpList_store_row rfl 44 (.tmp 5) (.tmp 8) rfl w.heap.size _ rfl rfl 44 _ (heap_alloc_new _ _) (by kernel_rfl) rfl (by kernel_rfl) ?_; rw [World.setRow_alloc_new]) | (refine wpList_store_row rfl 45 (.tmp 6) (.tmp 9) rfl (w.heap.size + 1) _ rfl rfl 45 _ (new_last _ _ _) (by kernel_rfl) rfl (by kernel_rfl) ?_; rw [setRow_last]))
  go_ret
  exact ⟨rfl, by go_grown⟩
set_option maxHeartbeats 1000000 in
theorem cy_10_3 (w : World) : Calls Try.prog 17 #[.int .i64 10, .int .i64 3] w fun e w' => e = .returned (.int .i64 8) ∧ Below w.heap.size w w' := by
  go_enter Try.func17, Try.ntmps17
  go_wp2_with (first | (go_at_call 18; refine (crosses_any _ _).mono ?_; rintro e w' ⟨rfl, rfl⟩) | (refine wpList_store_row rfl 44 (.tmp 5) (.tmp 8) rfl w.heap.size _ rfl rfl 44 _ (heap_alloc_new _ _) (by kernel_rfl) rfl (by kernel_rfl) ?_; rw [World.setRow_alloc_new]) | (refine wpList_store_row rfl 45 (.tmp 6) (.tmp 9) rfl (w.heap.size + 1) _ rfl rfl 45 _ (new_last _ _ _) (by kernel_rfl) rfl (by kernel_rfl) ?_; rw [setRow_last]))
  go_ret
  exact ⟨rfl, by go_grown⟩
theorem cycles_any (m u : Int) (w : World) (h : (u = 0 ∧ (m = 0 ∨ m = 1 ∨ m = 11 ∨ m = 12 ∨ m = 13 ∨ m = 14 ∨ m = 15 ∨ m = 16 ∨ m = 17 ∨ m = 18 ∨ m = 19 ∨ m = 20)) ∨ ((u = 1 ∨ u = 2 ∨ u = 3) ∧ (m = 2 ∨ m = 3 ∨ m = 4 ∨ m = 5 ∨ m = 6 ∨ m = 7 ∨ m = 8 ∨ m = 9 ∨ m = 10))) :
    Calls Try.prog 17 #[.int .i64 m, .int .i64 u] w fun e w' => e = .returned (.int .i64 (cy m u)) ∧ Below w.heap.size w w' := by
  rcases h with ⟨rfl, h⟩ | ⟨hu, h⟩
  · rcases h with rfl | rfl | rfl | rfl | rfl | rfl | rfl | rfl | rfl | rfl | rfl | rfl
    · exact cy_0_0 w
    · exact cy_1_0 w
    · exact cy_11_0 w
    · exact cy_12_0 w
    · exact cy_13_0 w
    · exact cy_14_0 w
    · exact cy_15_0 w
    · exact cy_16_0 w
    · exact cy_17_0 w
    · exact cy_18_0 w
    · exact cy_19_0 w
    · exact cy_20_0 w
  · rcases h with rfl | rfl | rfl | rfl | rfl | rfl | rfl | rfl | rfl
    · rcases hu with rfl | rfl | rfl
      · exact cy_2_1 w
      · exact cy_2_2 w
      · exact cy_2_3 w
    · rcases hu with rfl | rfl | rfl
      · exact cy_3_1 w
      · exact cy_3_2 w
      · exact cy_3_3 w
    · rcases hu with rfl | rfl | rfl
      · exact cy_4_1 w
      · exact cy_4_2 w
      · exact cy_4_3 w
    · rcases hu with rfl | rfl | rfl
      · exact cy_5_1 w
      · exact cy_5_2 w
      · exact cy_5_3 w
    · rcases hu with rfl | rfl | rfl
      · exact cy_6_1 w
      · exact cy_6_2 w
      · exact cy_6_3 w
    · rcases hu with rfl | rfl | rfl
      · exact cy_7_1 w
      · exact cy_7_2 w
      · exact cy_7_3 w
    · rcases hu with rfl | rfl | rfl
      · exact cy_8_1 w
      · exact cy_8_2 w
      · exact cy_8_3 w
    · rcases hu with rfl | rfl | rfl
      · exact cy_9_1 w
      · exact cy_9_2 w
      · exact cy_9_3 w
    · rcases hu with rfl | rfl | rfl
      · exact cy_10_1 w
      · exact cy_10_2 w
      · exact cy_10_3 w
end Go.Proofs.Ytbekiknbjpdchaa
