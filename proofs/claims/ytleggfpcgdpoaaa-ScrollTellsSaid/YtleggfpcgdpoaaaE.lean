/- The contracts of the law's Do, and of Tile, Tint, Row, of a scroll that may be. -/
import Derived.Test.YtleggfpcgdpoaaaPl3
import Derived.Test.YtleggfpcgdpoaaaA
import Derived.BigQuiet
namespace Go.Proofs.Ytleggfpcgdpoaaa
open Go.ChangeShapes Go.WideShapes Go.ChangeAt Go.RowKit
set_option linter.unusedVariables false
/-- what Do does: number k, with an octet n -/
def dV (k : Nat) (v t n : Int) (b : Bool) : Int :=
  match k with
  | 2 => if b then ah t n else v
  | 4 => st v false
  | 5 => st v true
  | 6 => rt v
  | 7 => dn v
  | 8 => ac v t
  | 9 => tp v t
  | _ => v
def dT (k : Nat) (t n : Int) (b : Bool) : Int :=
  match k with
  | 0 => ct t n
  | 1 => if b then wh t n else wl t n
  | 2 => if b then ah t n else al t n
  | _ => t
def dX (k : Nat) (x n : Int) (b : Bool) : Int :=
  match k with
  | 1 => if b then x else n % 8
  | _ => x
def dB (k : Nat) (b : Bool) : Bool :=
  match k with
  | 1 => !b
  | 2 => !b
  | 3 => false
  | _ => b
set_option maxHeartbeats 1000000 in
theorem do_0 (v t x n : Int) (b : Bool) (w : World) (v0 : 0 ≤ v) (v1 : v ≤ 32767) (t0 : 0 ≤ t) (t1 : t ≤ 32767) (x1 : x ≤ 7) (n0 : 0 ≤ n) (n1 : n ≤ 255) :
    Calls Try.prog 17 #[.agg #[.int .u16 v, .int .u16 t, .int .u8 x, .bool b], .int .i64 0, .int .u8 n] w fun e w' => e = .returned (.tuple #[.agg #[.int .u16 v, .int .u16 (ct t n), .int .u8 x, .bool b], .int .i64 0]) ∧ Below w.heap.size w w' := by
  go_enter Try.func17, Try.ntmps17
  go_wp2_with fail
  refine (control_any v t x b n _ v0 v1 t0 t1 x1 n0 n1).mono ?_
  rintro e w1 ⟨rfl, z1⟩
  have hR := Lib.hid (new_at (cs := #[.int .u16 0, .int .u16 0, .int .u8 0, .bool false]) (t := 24) (n := w.heap.size + 1) z1 (by rw [World.size_alloc]))
  have hG := Lib.hid (below_call ((Below.refl w.heap.size w).alloc (Nat.le_refl _) _ |>.alloc (by rw [World.size_alloc]; exact Nat.le_succ _) _) z1)
  clear z1
  go_wp2_with (refine wpList_store_row rfl 24 (.tmp 6) (.tmp 14) rfl (w.heap.size + 1) _ rfl rfl 24 _ hR.out (by kernel_rfl) rfl (one4 _ _ _ _) ?_)
  have kR := cells_of (setRow_heap _ _ _ #[.int .u16 v, .int .u16 (ct t n), .int .u8 x, .bool b] _ _ hR.out)
  exact bodyPost_ret (v := .tuple #[.agg #[.int .u16 v, .int .u16 (ct t n), .int .u8 x, .bool b], .int .i64 0]) (by simp [results, Try.results17, go_sem, kR]) rfl ⟨rfl, Below.setRow hG.out (by omega) _⟩
set_option maxHeartbeats 1000000 in
theorem do_1f (v t x n : Int) (w : World) (v0 : 0 ≤ v) (v1 : v ≤ 32767) (t0 : 0 ≤ t) (t1 : t ≤ 32767) (x1 : x ≤ 7) (n0 : 0 ≤ n) (n1 : n ≤ 255) :
    Calls Try.prog 17 #[.agg #[.int .u16 v, .int .u16 t, .int .u8 x, .bool false], .int .i64 1, .int .u8 n] w fun e w' => e = .returned (.tuple #[.agg #[.int .u16 v, .int .u16 (wl t n), .int .u8 (n % 8), .bool true], .int .i64 0]) ∧ Below w.heap.size w w' := by
  go_enter Try.func17, Try.ntmps17
  go_wp2_with fail
  refine (write_lo_any v t x n _ v0 v1 t0 t1 x1 n0 n1).mono ?_
  rintro e w1 ⟨rfl, z1⟩
  have hR := Lib.hid (new_at (cs := #[.int .u16 0, .int .u16 0, .int .u8 0, .bool false]) (t := 24) (n := w.heap.size + 1) z1 (by rw [World.size_alloc]))
  have hG := Lib.hid (below_call ((Below.refl w.heap.size w).alloc (Nat.le_refl _) _ |>.alloc (by rw [World.size_alloc]; exact Nat.le_succ _) _) z1)
  clear z1
  go_wp2_with (refine wpList_store_row rfl 24 (.tmp 6) (.tmp 21) rfl (w.heap.size + 1) _ rfl rfl 24 _ hR.out (by kernel_rfl) rfl (one4 _ _ _ _) ?_)
  have kR := cells_of (setRow_heap _ _ _ #[.int .u16 v, .int .u16 (wl t n), .int .u8 (n % 8), .bool true] _ _ hR.out)
  exact bodyPost_ret (v := .tuple #[.agg #[.int .u16 v, .int .u16 (wl t n), .int .u8 (n % 8), .bool true], .int .i64 0]) (by simp [results, Try.results17, go_sem, kR]) rfl ⟨rfl, Below.setRow hG.out (by omega) _⟩
set_option maxHeartbeats 1000000 in
theorem do_1t (v t x n : Int) (w : World) (v0 : 0 ≤ v) (v1 : v ≤ 32767) (t0 : 0 ≤ t) (t1 : t ≤ 32767) (x1 : x ≤ 7) (n0 : 0 ≤ n) (n1 : n ≤ 255) :
    Calls Try.prog 17 #[.agg #[.int .u16 v, .int .u16 t, .int .u8 x, .bool true], .int .i64 1, .int .u8 n] w fun e w' => e = .returned (.tuple #[.agg #[.int .u16 v, .int .u16 (wh t n), .int .u8 x, .bool false], .int .i64 0]) ∧ Below w.heap.size w w' := by
  go_enter Try.func17, Try.ntmps17
  go_wp2_with fail
  refine (write_hi_any v t x n _ v0 v1 t0 t1 x1 n0 n1).mono ?_
  rintro e w1 ⟨rfl, z1⟩
  have hR := Lib.hid (new_at (cs := #[.int .u16 0, .int .u16 0, .int .u8 0, .bool false]) (t := 24) (n := w.heap.size + 1) z1 (by rw [World.size_alloc]))
  have hG := Lib.hid (below_call ((Below.refl w.heap.size w).alloc (Nat.le_refl _) _ |>.alloc (by rw [World.size_alloc]; exact Nat.le_succ _) _) z1)
  clear z1
  go_wp2_with (refine wpList_store_row rfl 24 (.tmp 6) (.tmp 21) rfl (w.heap.size + 1) _ rfl rfl 24 _ hR.out (by kernel_rfl) rfl (one4 _ _ _ _) ?_)
  have kR := cells_of (setRow_heap _ _ _ #[.int .u16 v, .int .u16 (wh t n), .int .u8 x, .bool false] _ _ hR.out)
  exact bodyPost_ret (v := .tuple #[.agg #[.int .u16 v, .int .u16 (wh t n), .int .u8 x, .bool false], .int .i64 0]) (by simp [results, Try.results17, go_sem, kR]) rfl ⟨rfl, Below.setRow hG.out (by omega) _⟩
set_option maxHeartbeats 1000000 in
theorem do_2f (v t x n : Int) (w : World) (v0 : 0 ≤ v) (v1 : v ≤ 32767) (t0 : 0 ≤ t) (t1 : t ≤ 32767) (x1 : x ≤ 7) (n0 : 0 ≤ n) (n1 : n ≤ 255) :
    Calls Try.prog 17 #[.agg #[.int .u16 v, .int .u16 t, .int .u8 x, .bool false], .int .i64 2, .int .u8 n] w fun e w' => e = .returned (.tuple #[.agg #[.int .u16 v, .int .u16 (al t n), .int .u8 x, .bool true], .int .i64 0]) ∧ Below w.heap.size w w' := by
  go_enter Try.func17, Try.ntmps17
  go_wp2_with fail
  refine (addr_lo_any v t x n _ v0 v1 t0 t1 x1 n0 n1).mono ?_
  rintro e w1 ⟨rfl, z1⟩
  have hR := Lib.hid (new_at (cs := #[.int .u16 0, .int .u16 0, .int .u8 0, .bool false]) (t := 24) (n := w.heap.size + 1) z1 (by rw [World.size_alloc]))
  have hG := Lib.hid (below_call ((Below.refl w.heap.size w).alloc (Nat.le_refl _) _ |>.alloc (by rw [World.size_alloc]; exact Nat.le_succ _) _) z1)
  clear z1
  go_wp2_with (refine wpList_store_row rfl 24 (.tmp 6) (.tmp 28) rfl (w.heap.size + 1) _ rfl rfl 24 _ hR.out (by kernel_rfl) rfl (one4 _ _ _ _) ?_)
  have kR := cells_of (setRow_heap _ _ _ #[.int .u16 v, .int .u16 (al t n), .int .u8 x, .bool true] _ _ hR.out)
  exact bodyPost_ret (v := .tuple #[.agg #[.int .u16 v, .int .u16 (al t n), .int .u8 x, .bool true], .int .i64 0]) (by simp [results, Try.results17, go_sem, kR]) rfl ⟨rfl, Below.setRow hG.out (by omega) _⟩
set_option maxHeartbeats 1000000 in
theorem do_2t (v t x n : Int) (w : World) (v0 : 0 ≤ v) (v1 : v ≤ 32767) (t0 : 0 ≤ t) (t1 : t ≤ 32767) (x1 : x ≤ 7) (n0 : 0 ≤ n) (n1 : n ≤ 255) :
    Calls Try.prog 17 #[.agg #[.int .u16 v, .int .u16 t, .int .u8 x, .bool true], .int .i64 2, .int .u8 n] w fun e w' => e = .returned (.tuple #[.agg #[.int .u16 (ah t n), .int .u16 (ah t n), .int .u8 x, .bool false], .int .i64 0]) ∧ Below w.heap.size w w' := by
  go_enter Try.func17, Try.ntmps17
  go_wp2_with fail
  refine (addr_hi_any v t x n _ v0 v1 t0 t1 x1 n0 n1).mono ?_
  rintro e w1 ⟨rfl, z1⟩
  have hR := Lib.hid (new_at (cs := #[.int .u16 0, .int .u16 0, .int .u8 0, .bool false]) (t := 24) (n := w.heap.size + 1) z1 (by rw [World.size_alloc]))
  have hG := Lib.hid (below_call ((Below.refl w.heap.size w).alloc (Nat.le_refl _) _ |>.alloc (by rw [World.size_alloc]; exact Nat.le_succ _) _) z1)
  clear z1
  go_wp2_with (refine wpList_store_row rfl 24 (.tmp 6) (.tmp 28) rfl (w.heap.size + 1) _ rfl rfl 24 _ hR.out (by kernel_rfl) rfl (one4 _ _ _ _) ?_)
  have kR := cells_of (setRow_heap _ _ _ #[.int .u16 (ah t n), .int .u16 (ah t n), .int .u8 x, .bool false] _ _ hR.out)
  exact bodyPost_ret (v := .tuple #[.agg #[.int .u16 (ah t n), .int .u16 (ah t n), .int .u8 x, .bool false], .int .i64 0]) (by simp [results, Try.results17, go_sem, kR]) rfl ⟨rfl, Below.setRow hG.out (by omega) _⟩
set_option maxHeartbeats 1000000 in
theorem do_3 (v t x n : Int) (b : Bool) (w : World) (v0 : 0 ≤ v) (v1 : v ≤ 32767) (t0 : 0 ≤ t) (t1 : t ≤ 32767) (x1 : x ≤ 7) (n0 : 0 ≤ n) (n1 : n ≤ 255) :
    Calls Try.prog 17 #[.agg #[.int .u16 v, .int .u16 t, .int .u8 x, .bool b], .int .i64 3, .int .u8 n] w fun e w' => e = .returned (.tuple #[.agg #[.int .u16 v, .int .u16 t, .int .u8 x, .bool false], .int .i64 0]) ∧ Below w.heap.size w w' := by
  go_enter Try.func17, Try.ntmps17
  go_wp2_with fail
  refine (status_any v t x b _ v0 v1 t0 t1 x1).mono ?_
  rintro e w1 ⟨rfl, z1⟩
  have hR := Lib.hid (new_at (cs := #[.int .u16 0, .int .u16 0, .int .u8 0, .bool false]) (t := 24) (n := w.heap.size + 1) z1 (by rw [World.size_alloc]))
  have hG := Lib.hid (below_call ((Below.refl w.heap.size w).alloc (Nat.le_refl _) _ |>.alloc (by rw [World.size_alloc]; exact Nat.le_succ _) _) z1)
  clear z1
  go_wp2_with (refine wpList_store_row rfl 24 (.tmp 6) (.tmp 34) rfl (w.heap.size + 1) _ rfl rfl 24 _ hR.out (by kernel_rfl) rfl (one4 _ _ _ _) ?_)
  have kR := cells_of (setRow_heap _ _ _ #[.int .u16 v, .int .u16 t, .int .u8 x, .bool false] _ _ hR.out)
  exact bodyPost_ret (v := .tuple #[.agg #[.int .u16 v, .int .u16 t, .int .u8 x, .bool false], .int .i64 0]) (by simp [results, Try.results17, go_sem, kR]) rfl ⟨rfl, Below.setRow hG.out (by omega) _⟩
set_option maxHeartbeats 1000000 in
theorem do_4 (v t x n : Int) (b : Bool) (w : World) (v0 : 0 ≤ v) (v1 : v ≤ 32767) (t0 : 0 ≤ t) (t1 : t ≤ 32767) (x1 : x ≤ 7) (n0 : 0 ≤ n) (n1 : n ≤ 255) :
    Calls Try.prog 17 #[.agg #[.int .u16 v, .int .u16 t, .int .u8 x, .bool b], .int .i64 4, .int .u8 n] w fun e w' => e = .returned (.tuple #[.agg #[.int .u16 (st v false), .int .u16 t, .int .u8 x, .bool b], .int .i64 0]) ∧ Below w.heap.size w w' := by
  go_enter Try.func17, Try.ntmps17
  go_wp2_with fail
  refine (step_any v t x b false _ v0 v1 t0 t1 x1).mono ?_
  rintro e w1 ⟨rfl, z1⟩
  have hR := Lib.hid (new_at (cs := #[.int .u16 0, .int .u16 0, .int .u8 0, .bool false]) (t := 24) (n := w.heap.size + 1) z1 (by rw [World.size_alloc]))
  have hG := Lib.hid (below_call ((Below.refl w.heap.size w).alloc (Nat.le_refl _) _ |>.alloc (by rw [World.size_alloc]; exact Nat.le_succ _) _) z1)
  clear z1
  go_wp2_with (refine wpList_store_row rfl 24 (.tmp 6) (.tmp 40) rfl (w.heap.size + 1) _ rfl rfl 24 _ hR.out (by kernel_rfl) rfl (one4 _ _ _ _) ?_)
  have kR := cells_of (setRow_heap _ _ _ #[.int .u16 (st v false), .int .u16 t, .int .u8 x, .bool b] _ _ hR.out)
  exact bodyPost_ret (v := .tuple #[.agg #[.int .u16 (st v false), .int .u16 t, .int .u8 x, .bool b], .int .i64 0]) (by simp [results, Try.results17, go_sem, kR]) rfl ⟨rfl, Below.setRow hG.out (by omega) _⟩
set_option maxHeartbeats 1000000 in
theorem do_5 (v t x n : Int) (b : Bool) (w : World) (v0 : 0 ≤ v) (v1 : v ≤ 32767) (t0 : 0 ≤ t) (t1 : t ≤ 32767) (x1 : x ≤ 7) (n0 : 0 ≤ n) (n1 : n ≤ 255) :
    Calls Try.prog 17 #[.agg #[.int .u16 v, .int .u16 t, .int .u8 x, .bool b], .int .i64 5, .int .u8 n] w fun e w' => e = .returned (.tuple #[.agg #[.int .u16 (st v true), .int .u16 t, .int .u8 x, .bool b], .int .i64 0]) ∧ Below w.heap.size w w' := by
  go_enter Try.func17, Try.ntmps17
  go_wp2_with fail
  refine (step_any v t x b true _ v0 v1 t0 t1 x1).mono ?_
  rintro e w1 ⟨rfl, z1⟩
  have hR := Lib.hid (new_at (cs := #[.int .u16 0, .int .u16 0, .int .u8 0, .bool false]) (t := 24) (n := w.heap.size + 1) z1 (by rw [World.size_alloc]))
  have hG := Lib.hid (below_call ((Below.refl w.heap.size w).alloc (Nat.le_refl _) _ |>.alloc (by rw [World.size_alloc]; exact Nat.le_succ _) _) z1)
  clear z1
  go_wp2_with (refine wpList_store_row rfl 24 (.tmp 6) (.tmp 46) rfl (w.heap.size + 1) _ rfl rfl 24 _ hR.out (by kernel_rfl) rfl (one4 _ _ _ _) ?_)
  have kR := cells_of (setRow_heap _ _ _ #[.int .u16 (st v true), .int .u16 t, .int .u8 x, .bool b] _ _ hR.out)
  exact bodyPost_ret (v := .tuple #[.agg #[.int .u16 (st v true), .int .u16 t, .int .u8 x, .bool b], .int .i64 0]) (by simp [results, Try.results17, go_sem, kR]) rfl ⟨rfl, Below.setRow hG.out (by omega) _⟩
set_option maxHeartbeats 1000000 in
theorem do_6 (v t x n : Int) (b : Bool) (w : World) (v0 : 0 ≤ v) (v1 : v ≤ 32767) (t0 : 0 ≤ t) (t1 : t ≤ 32767) (x1 : x ≤ 7) (n0 : 0 ≤ n) (n1 : n ≤ 255) :
    Calls Try.prog 17 #[.agg #[.int .u16 v, .int .u16 t, .int .u8 x, .bool b], .int .i64 6, .int .u8 n] w fun e w' => e = .returned (.tuple #[.agg #[.int .u16 (rt v), .int .u16 t, .int .u8 x, .bool b], .int .i64 0]) ∧ Below w.heap.size w w' := by
  go_enter Try.func17, Try.ntmps17
  go_wp2_with fail
  refine (right_any v t x b _ v0 v1 t0 t1 x1).mono ?_
  rintro e w1 ⟨rfl, z1⟩
  have hR := Lib.hid (new_at (cs := #[.int .u16 0, .int .u16 0, .int .u8 0, .bool false]) (t := 24) (n := w.heap.size + 1) z1 (by rw [World.size_alloc]))
  have hG := Lib.hid (below_call ((Below.refl w.heap.size w).alloc (Nat.le_refl _) _ |>.alloc (by rw [World.size_alloc]; exact Nat.le_succ _) _) z1)
  clear z1
  go_wp2_with (refine wpList_store_row rfl 24 (.tmp 6) (.tmp 52) rfl (w.heap.size + 1) _ rfl rfl 24 _ hR.out (by kernel_rfl) rfl (one4 _ _ _ _) ?_)
  have kR := cells_of (setRow_heap _ _ _ #[.int .u16 (rt v), .int .u16 t, .int .u8 x, .bool b] _ _ hR.out)
  exact bodyPost_ret (v := .tuple #[.agg #[.int .u16 (rt v), .int .u16 t, .int .u8 x, .bool b], .int .i64 0]) (by simp [results, Try.results17, go_sem, kR]) rfl ⟨rfl, Below.setRow hG.out (by omega) _⟩
set_option maxHeartbeats 1000000 in
theorem do_7 (v t x n : Int) (b : Bool) (w : World) (v0 : 0 ≤ v) (v1 : v ≤ 32767) (t0 : 0 ≤ t) (t1 : t ≤ 32767) (x1 : x ≤ 7) (n0 : 0 ≤ n) (n1 : n ≤ 255) :
    Calls Try.prog 17 #[.agg #[.int .u16 v, .int .u16 t, .int .u8 x, .bool b], .int .i64 7, .int .u8 n] w fun e w' => e = .returned (.tuple #[.agg #[.int .u16 (dn v), .int .u16 t, .int .u8 x, .bool b], .int .i64 0]) ∧ Below w.heap.size w w' := by
  go_enter Try.func17, Try.ntmps17
  go_wp2_with fail
  refine (down_any v t x b _ v0 v1 t0 t1 x1).mono ?_
  rintro e w1 ⟨rfl, z1⟩
  have hR := Lib.hid (new_at (cs := #[.int .u16 0, .int .u16 0, .int .u8 0, .bool false]) (t := 24) (n := w.heap.size + 1) z1 (by rw [World.size_alloc]))
  have hG := Lib.hid (below_call ((Below.refl w.heap.size w).alloc (Nat.le_refl _) _ |>.alloc (by rw [World.size_alloc]; exact Nat.le_succ _) _) z1)
  clear z1
  go_wp2_with (refine wpList_store_row rfl 24 (.tmp 6) (.tmp 58) rfl (w.heap.size + 1) _ rfl rfl 24 _ hR.out (by kernel_rfl) rfl (one4 _ _ _ _) ?_)
  have kR := cells_of (setRow_heap _ _ _ #[.int .u16 (dn v), .int .u16 t, .int .u8 x, .bool b] _ _ hR.out)
  exact bodyPost_ret (v := .tuple #[.agg #[.int .u16 (dn v), .int .u16 t, .int .u8 x, .bool b], .int .i64 0]) (by simp [results, Try.results17, go_sem, kR]) rfl ⟨rfl, Below.setRow hG.out (by omega) _⟩
set_option maxHeartbeats 1000000 in
theorem do_8 (v t x n : Int) (b : Bool) (w : World) (v0 : 0 ≤ v) (v1 : v ≤ 32767) (t0 : 0 ≤ t) (t1 : t ≤ 32767) (x1 : x ≤ 7) (n0 : 0 ≤ n) (n1 : n ≤ 255) :
    Calls Try.prog 17 #[.agg #[.int .u16 v, .int .u16 t, .int .u8 x, .bool b], .int .i64 8, .int .u8 n] w fun e w' => e = .returned (.tuple #[.agg #[.int .u16 (ac v t), .int .u16 t, .int .u8 x, .bool b], .int .i64 0]) ∧ Below w.heap.size w w' := by
  go_enter Try.func17, Try.ntmps17
  go_wp2_with fail
  refine (across_any v t x b _ v0 v1 t0 t1 x1).mono ?_
  rintro e w1 ⟨rfl, z1⟩
  have hR := Lib.hid (new_at (cs := #[.int .u16 0, .int .u16 0, .int .u8 0, .bool false]) (t := 24) (n := w.heap.size + 1) z1 (by rw [World.size_alloc]))
  have hG := Lib.hid (below_call ((Below.refl w.heap.size w).alloc (Nat.le_refl _) _ |>.alloc (by rw [World.size_alloc]; exact Nat.le_succ _) _) z1)
  clear z1
  go_wp2_with (refine wpList_store_row rfl 24 (.tmp 6) (.tmp 64) rfl (w.heap.size + 1) _ rfl rfl 24 _ hR.out (by kernel_rfl) rfl (one4 _ _ _ _) ?_)
  have kR := cells_of (setRow_heap _ _ _ #[.int .u16 (ac v t), .int .u16 t, .int .u8 x, .bool b] _ _ hR.out)
  exact bodyPost_ret (v := .tuple #[.agg #[.int .u16 (ac v t), .int .u16 t, .int .u8 x, .bool b], .int .i64 0]) (by simp [results, Try.results17, go_sem, kR]) rfl ⟨rfl, Below.setRow hG.out (by omega) _⟩
set_option maxHeartbeats 1000000 in
theorem do_9 (v t x n : Int) (b : Bool) (w : World) (v0 : 0 ≤ v) (v1 : v ≤ 32767) (t0 : 0 ≤ t) (t1 : t ≤ 32767) (x1 : x ≤ 7) (n0 : 0 ≤ n) (n1 : n ≤ 255) :
    Calls Try.prog 17 #[.agg #[.int .u16 v, .int .u16 t, .int .u8 x, .bool b], .int .i64 9, .int .u8 n] w fun e w' => e = .returned (.tuple #[.agg #[.int .u16 (tp v t), .int .u16 t, .int .u8 x, .bool b], .int .i64 0]) ∧ Below w.heap.size w w' := by
  go_enter Try.func17, Try.ntmps17
  go_wp2_with fail
  refine (top_any v t x b _ v0 v1 t0 t1 x1).mono ?_
  rintro e w1 ⟨rfl, z1⟩
  have hR := Lib.hid (new_at (cs := #[.int .u16 0, .int .u16 0, .int .u8 0, .bool false]) (t := 24) (n := w.heap.size + 1) z1 (by rw [World.size_alloc]))
  have hG := Lib.hid (below_call ((Below.refl w.heap.size w).alloc (Nat.le_refl _) _ |>.alloc (by rw [World.size_alloc]; exact Nat.le_succ _) _) z1)
  clear z1
  go_wp2_with (refine wpList_store_row rfl 24 (.tmp 6) (.tmp 68) rfl (w.heap.size + 1) _ rfl rfl 24 _ hR.out (by kernel_rfl) rfl (one4 _ _ _ _) ?_)
  have kR := cells_of (setRow_heap _ _ _ #[.int .u16 (tp v t), .int .u16 t, .int .u8 x, .bool b] _ _ hR.out)
  exact bodyPost_ret (v := .tuple #[.agg #[.int .u16 (tp v t), .int .u16 t, .int .u8 x, .bool b], .int .i64 0]) (by simp [results, Try.results17, go_sem, kR]) rfl ⟨rfl, Below.setRow hG.out (by omega) _⟩
theorem do_any (k : Nat) (v t x n : Int) (b : Bool) (w : World) (hk : k < 10) (v0 : 0 ≤ v) (v1 : v ≤ 32767) (t0 : 0 ≤ t) (t1 : t ≤ 32767) (x1 : x ≤ 7) (n0 : 0 ≤ n) (n1 : n ≤ 255) :
    Calls Try.prog 17 #[.agg #[.int .u16 v, .int .u16 t, .int .u8 x, .bool b], .int .i64 k, .int .u8 n] w fun e w' => e = .returned (.tuple #[.agg #[.int .u16 (dV k v t n b), .int .u16 (dT k t n b), .int .u8 (dX k x n b), .bool (dB k b)], .int .i64 0]) ∧ Below w.heap.size w w' := by
  have e : k = 0 ∨ k = 1 ∨ k = 2 ∨ k = 3 ∨ k = 4 ∨ k = 5 ∨ k = 6 ∨ k = 7 ∨ k = 8 ∨ k = 9 := by omega
  rcases e with rfl | rfl | rfl | rfl | rfl | rfl | rfl | rfl | rfl | rfl
  · exact do_0 v t x n b w v0 v1 t0 t1 x1 n0 n1
  · cases b
    · exact do_1f v t x n w v0 v1 t0 t1 x1 n0 n1
    · exact do_1t v t x n w v0 v1 t0 t1 x1 n0 n1
  · cases b
    · exact do_2f v t x n w v0 v1 t0 t1 x1 n0 n1
    · exact do_2t v t x n w v0 v1 t0 t1 x1 n0 n1
  · exact do_3 v t x n b w v0 v1 t0 t1 x1 n0 n1
  · exact do_4 v t x n b w v0 v1 t0 t1 x1 n0 n1
  · exact do_5 v t x n b w v0 v1 t0 t1 x1 n0 n1
  · exact do_6 v t x n b w v0 v1 t0 t1 x1 n0 n1
  · exact do_7 v t x n b w v0 v1 t0 t1 x1 n0 n1
  · exact do_8 v t x n b w v0 v1 t0 t1 x1 n0 n1
  · exact do_9 v t x n b w v0 v1 t0 t1 x1 n0 n1
/-- it stays one that may be -/
theorem do_bd (k : Nat) (v t x n : Int) (b : Bool) (hk : k < 10) (v0 : 0 ≤ v) (v1 : v ≤ 32767) (t0 : 0 ≤ t) (t1 : t ≤ 32767) (x0 : 0 ≤ x) (x1 : x ≤ 7) (n0 : 0 ≤ n) (n1 : n ≤ 255) :
    (0 ≤ dV k v t n b ∧ dV k v t n b ≤ 32767) ∧ (0 ≤ dT k t n b ∧ dT k t n b ≤ 32767) ∧ 0 ≤ dX k x n b ∧ dX k x n b ≤ 7 := by
  have hah : 0 ≤ ah t n ∧ ah t n ≤ 32767 := by unfold ah; omega
  have hal : 0 ≤ al t n ∧ al t n ≤ 32767 := by unfold al; omega
  have hct : 0 ≤ ct t n ∧ ct t n ≤ 32767 := by unfold ct; omega
  have hst : ∀ f, 0 ≤ st v f ∧ st v f ≤ 32767 := fun f => by unfold st; omega
  have h8 : 0 ≤ n % 8 ∧ n % 8 ≤ 7 := by omega
  obtain ⟨T, _, _, _, _, _, _, _, hwl, _, _⟩ := writes_plain v t n 0 v0 v1 t0 t1 n0 n1 (by omega) (by omega)
  have hwh : 0 ≤ wh t n ∧ wh t n ≤ 32767 := by
    obtain ⟨a, c, h, k, f, rfl, s⟩ := apart t t0 t1
    rw [wh_pt s n n0 n1]
    exact pt_bd ⟨s.ha, by omega, s.hh, s.hk, by omega⟩
  obtain ⟨r, d, rd, a, p, rfl, rfl, _, _, rfl, _, rfl, _, hr, hd, ha, hp, _, _⟩ := apart_plain v t v0 v1 t0 t1
  have e : k = 0 ∨ k = 1 ∨ k = 2 ∨ k = 3 ∨ k = 4 ∨ k = 5 ∨ k = 6 ∨ k = 7 ∨ k = 8 ∨ k = 9 := by omega
  rcases e with rfl | rfl | rfl | rfl | rfl | rfl | rfl | rfl | rfl | rfl
  · exact ⟨⟨v0, v1⟩, hct, x0, x1⟩
  · cases b
    · exact ⟨⟨v0, v1⟩, hwl, h8⟩
    · exact ⟨⟨v0, v1⟩, hwh, x0, x1⟩
  · cases b
    · exact ⟨⟨v0, v1⟩, hal, x0, x1⟩
    · exact ⟨hah, hah, x0, x1⟩
  · exact ⟨⟨v0, v1⟩, ⟨t0, t1⟩, x0, x1⟩
  · exact ⟨hst _, ⟨t0, t1⟩, x0, x1⟩
  · exact ⟨hst _, ⟨t0, t1⟩, x0, x1⟩
  · exact ⟨hr, ⟨t0, t1⟩, x0, x1⟩
  · exact ⟨hd, ⟨t0, t1⟩, x0, x1⟩
  · exact ⟨ha, ⟨t0, t1⟩, x0, x1⟩
  · exact ⟨hp, ⟨t0, t1⟩, x0, x1⟩
theorem or_join (i : Nat) (x y : Int) (x0 : 0 ≤ x) (x1 : x ≤ 65535) (hx : x % 2 ^ i = 0) (y0 : 0 ≤ y) (hy : y < 2 ^ i) (y1 : y ≤ 65535) : bits .or .u16 x y = x + y := by
  obtain ⟨X, rfl, hX⟩ := u16_nat x x0 x1
  obtain ⟨Y, rfl, hY⟩ := u16_nat y y0 y1
  rw [u16_or_nat X Y hX hY, nat_join i X Y (by exact_mod_cast hx) (by exact_mod_cast hy)]
  simp
theorem or_9152 (q : Int) (q0 : 0 ≤ q) (q1 : q ≤ 3) : bits .or .u16 9152 (1024 * q) = 9152 + 1024 * q := by
  have e : q = 0 ∨ q = 1 ∨ q = 2 ∨ q = 3 := by omega
  rcases e with rfl | rfl | rfl | rfl <;> decide
theorem m56 : Mask 56 (fun n => 8 * (n / 8 % 8)) := mask_run 3 3 56 rfl (by omega)
theorem m4 : Mask 4 (fun n => 4 * (n / 4 % 2)) := mask_run 2 1 4 rfl (by omega)
theorem m2 : Mask 2 (fun n => 2 * (n / 2 % 2)) := mask_run 1 1 2 rfl (by omega)
theorem m7 : Mask 7 (fun n => n % 8) := by
  have h := mask_run 0 3 7 rfl (by omega)
  refine ⟨h.1, fun n hn => ?_⟩
  rw [h.2 n hn]
  simp
/-- where the colours are, and how far they are shifted -/
def ti (v : Int) : Int := 9152 + 1024 * (v / 1024 % 4) + 8 * (v / 128 % 8) + v / 4 % 8
def ts (v : Int) : Int := 4 * (v / 64 % 2) + 2 * (v / 2 % 2)
theorem tile_ok (v t x : Int) (b : Bool) (w : World) (v0 : 0 ≤ v) (v1 : v ≤ 32767) (t1 : t ≤ 32767) (x1 : x ≤ 7) :
    Calls Try.prog 20 #[.agg #[.int .u16 v, .int .u16 t, .int .u8 x, .bool b]] w fun e w' => e = .returned (.int .u16 (8192 + v % 4096)) ∧ Below w.heap.size w w' := by
  have f1 : bits .and .u16 v 4095 = v % 4096 := m4095.and v v0 (by omega)
  have f2 := or_join 12 8192 (v % 4096) (by omega) (by omega) (by omega) (by omega) (by omega) (by omega)
  go_enter Try.func20, Try.ntmps20
  go_wp2_with fail
  refine (check_ok v t x b _ v1 t1 x1).mono ?_
  rintro e w1 ⟨rfl, z1⟩
  have kB := cells_of (old_in (heap_alloc_new _ _) z1)
  have hG := Lib.hid (below_new (Below.refl w.heap.size w) (Nat.le_refl _) z1)
  clear z1
  go_wp2
  go_ret
  exact ⟨rfl, hG.out⟩
theorem row_ok (v t x : Int) (b : Bool) (w : World) (v0 : 0 ≤ v) (v1 : v ≤ 32767) (t1 : t ≤ 32767) (x1 : x ≤ 7) :
    Calls Try.prog 21 #[.agg #[.int .u16 v, .int .u16 t, .int .u8 x, .bool b]] w fun e w' => e = .returned (.int .u16 (v / 4096)) ∧ Below w.heap.size w w' := by
  go_enter Try.func21, Try.ntmps21
  go_wp2_with fail
  refine (check_ok v t x b _ v1 t1 x1).mono ?_
  rintro e w1 ⟨rfl, z1⟩
  have kB := cells_of (old_in (heap_alloc_new _ _) z1)
  have hG := Lib.hid (below_new (Below.refl w.heap.size w) (Nat.le_refl _) z1)
  clear z1
  go_wp2
  go_ret
  exact ⟨rfl, hG.out⟩
theorem tint_ok (v t x : Int) (b : Bool) (w : World) (v0 : 0 ≤ v) (v1 : v ≤ 32767) (t1 : t ≤ 32767) (x1 : x ≤ 7) :
    Calls Try.prog 18 #[.agg #[.int .u16 v, .int .u16 t, .int .u8 x, .bool b]] w fun e w' => e = .returned (.tuple #[.int .u16 (ti v), .int .i64 (ts v)]) ∧ Below w.heap.size w w' := by
  obtain ⟨p1, hp1⟩ : ∃ p, 1024 * (v / 1024 % 4) = p := ⟨_, rfl⟩
  obtain ⟨p2, hp2⟩ : ∃ p, 8 * (v / 128 % 8) = p := ⟨_, rfl⟩
  obtain ⟨p3, hp3⟩ : ∃ p, v / 4 % 8 = p := ⟨_, rfl⟩
  obtain ⟨q1, hq1⟩ : ∃ p, 4 * (v / 64 % 2) = p := ⟨_, rfl⟩
  obtain ⟨q2, hq2⟩ : ∃ p, 2 * (v / 2 % 2) = p := ⟨_, rfl⟩
  have f1 : bits .and .u16 v 3072 = p1 := (m3072.and v v0 (by omega)).trans hp1
  have f2 : bits .and .u16 (v / 16) 56 = p2 := (m56.and (v / 16) (by omega) (by omega)).trans (by omega)
  have f3 : bits .and .u16 (v / 4) 7 = p3 := (m7.and (v / 4) (by omega) (by omega)).trans hp3
  have f4 : bits .and .u16 (v / 16) 4 = q1 := (m4.and (v / 16) (by omega) (by omega)).trans (by omega)
  have f5 : bits .and .u16 v 2 = q2 := (m2.and v v0 (by omega)).trans hq2
  have g1 : bits .or .u16 9152 p1 = 9152 + p1 := by rw [← hp1]; exact or_9152 _ (by omega) (by omega)
  have g2 := or_join 6 (9152 + p1) p2 (by omega) (by omega) (by omega) (by omega) (by omega) (by omega)
  have g3 := or_join 3 (9152 + p1 + p2) p3 (by omega) (by omega) (by omega) (by omega) (by omega) (by omega)
  have g4 := or_join 2 q1 q2 (by omega) (by omega) (by omega) (by omega) (by omega) (by omega)
  have e1 : ti v = 9152 + p1 + p2 + p3 := by unfold ti; omega
  have e2 : ts v = q1 + q2 := by unfold ts; omega
  rw [e1, e2]
  have b1 : 0 ≤ q1 + q2 ∧ q1 + q2 ≤ 6 := by omega
  clear hp1 hp2 hp3 hq1 hq2 e1 e2
  obtain ⟨b2, b3⟩ := b1
  go_enter Try.func18, Try.ntmps18
  go_wp2_with fail
  refine (check_ok v t x b _ v1 t1 x1).mono ?_
  rintro e w1 ⟨rfl, z1⟩
  have kB := cells_of (old_in (heap_alloc_new _ _) z1)
  have hG := Lib.hid (below_new (Below.refl w.heap.size w) (Nat.le_refl _) z1)
  clear z1
  go_wp2_with fail
  go_region
  go_wp2
  go_ret2
  exact ⟨rfl, hG.out.drew⟩
end Go.Proofs.Ytleggfpcgdpoaaa
