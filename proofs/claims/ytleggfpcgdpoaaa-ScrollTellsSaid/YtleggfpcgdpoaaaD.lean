/- The contracts of package scroll's exported functions. -/
import Derived.Test.YtleggfpcgdpoaaaC
import Derived.Deep.WholeRow
namespace Go.Proofs.Ytleggfpcgdpoaaa
open Go.ChangeShapes Go.WideShapes Go.ChangeAt Go.RowKit
set_option linter.unusedVariables false
theorem one4 (v t x : Int) (b : Bool) : (#[.int .u16 v, .int .u16 t, .int .u8 x, .bool b] : Array Value).all (·.oneCell') = true := by kernel_rfl
theorem Below.setRow {B : Nat} {a w : World} (h : Below B a w) {g : Nat} (hg : B ≤ g) (cs : Array Value) : Below B a (w.setRow g cs) :=
  ⟨h.os, h.tape, h.output, by simpa using h.size, fun k hk => (setRow_other w g k cs (by omega)).trans (h.block k hk)⟩
theorem lt_of_row {x : World} {k : Nat} {o : Obj} (h : x.heap[k]? = some o) : k < x.heap.size := by
  rcases Nat.lt_or_ge k x.heap.size with q | q
  · exact q
  · rw [Array.getElem?_eq_none q] at h
    cases h
theorem old_in {W w' : World} {g : Nat} {o : Obj} (hg : W.heap[g]? = some o) (h : Below W.heap.size W w') : w'.heap[g]? = some o := (h.block _ (lt_of_row hg)).trans hg
theorem old_new {x : World} {g : Nat} {o : Obj} (h : x.heap[g]? = some o) (p : Obj) : (x.alloc p).heap[g]? = some o := (heap_alloc_old _ _ (lt_of_row h)).trans h
theorem below_call {w W w' : World} (h0 : Below w.heap.size w W) (h : Below W.heap.size W w') : Below w.heap.size w w' := h0.trans (h.mono h0.size)
theorem new_at {W w' : World} {cs : Array Value} {t : TypeId} {n : Nat} (h : Below (W.alloc (.cells cs t)).heap.size (W.alloc (.cells cs t)) w') (hn : W.heap.size = n) : w'.heap[n]? = some (.cells cs t (0, 0)) := by
  subst hn
  exact old_in (heap_alloc_new _ _) h
set_option maxHeartbeats 1000000 in
theorem change_status (v t x : Int) (b : Bool) (w : World) (v0 : 0 ≤ v) (v1 : v ≤ 32767) (t0 : 0 ≤ t) (t1 : t ≤ 32767) (x1 : x ≤ 7) :
    Calls Try.prog 26 #[.agg #[.int .u16 v, .int .u16 t, .int .u8 x, .bool b], .func (.func 27) #[] #[]] w fun e w' => e = .returned (.tuple #[.agg #[.int .u16 v, .int .u16 t, .int .u8 x, .bool false], .int .i64 0]) ∧ Below w.heap.size w w' := by
  go_enter Try.func26, Try.ntmps26
  go_wp2_with fail
  refine (check_ok v t x b _ v1 t1 x1).mono ?_
  rintro e w1 ⟨rfl, z1⟩
  have hB := Lib.hid (old_in (heap_alloc2_old _ _ _) z1)
  have hR := Lib.hid (new_at z1 (World.size_alloc _ _))
  have hG := Lib.hid (below_call (((Below.refl w.heap.size w).alloc (Nat.le_refl _) _).alloc (by rw [World.size_alloc]; exact Nat.le_succ _) _) z1)
  clear z1
  have kB := cells_of hB.out
  go_wp2_with fail
  refine (cl_status w.heap.size v t x b w1 hB.out).mono ?_
  rintro e w2 ⟨rfl, hD⟩
  clear kB
  have kB := cells_of hD.row
  have hR2 := Lib.hid ((hD.chg.kept (w.heap.size + 1) (by omega)).trans hR.out)
  have hG2 := Lib.hid (hG.out.trans (hD.chg.below _ (Nat.le_refl _)))
  clear hD
  go_wp2_with (refine wpList_store_row rfl 24 (.tmp 4) (.tmp 15) rfl (w.heap.size + 1) _ rfl rfl 24 _ hR2.out (by kernel_rfl) rfl (one4 _ _ _ _) ?_)
  have kR := cells_of (setRow_heap _ _ _ #[.int .u16 v, .int .u16 t, .int .u8 x, .bool false] _ _ hR2.out)
  exact bodyPost_ret (by simp [results, Try.results26, go_sem, kR]) rfl ⟨rfl, Below.setRow hG2.out (Nat.le_succ _) _⟩
set_option maxHeartbeats 1000000 in
theorem status_any (v t x : Int) (b : Bool) (w : World) (v0 : 0 ≤ v) (v1 : v ≤ 32767) (t0 : 0 ≤ t) (t1 : t ≤ 32767) (x1 : x ≤ 7) :
    Calls Try.prog 10 #[.agg #[.int .u16 v, .int .u16 t, .int .u8 x, .bool b]] w fun e w' => e = .returned (.tuple #[.agg #[.int .u16 v, .int .u16 t, .int .u8 x, .bool false], .int .i64 0]) ∧ Below w.heap.size w w' := by
  go_enter Try.func10, Try.ntmps10
  go_wp2_with fail
  refine (change_status v t x b _ v0 v1 t0 t1 x1).mono ?_
  rintro e w1 ⟨rfl, z1⟩
  have hR := Lib.hid (new_at (cs := #[.int .u16 0, .int .u16 0, .int .u8 0, .bool false]) (t := 24) (n := w.heap.size + 1) z1 (by rw [World.size_alloc]))
  have hG := Lib.hid (below_call (((Below.refl w.heap.size w).alloc (Nat.le_refl _) _).alloc (by rw [World.size_alloc]; exact Nat.le_succ _) _) z1)
  clear z1
  go_wp2_with (refine wpList_store_row rfl 24 (.tmp 2) (.tmp 6) rfl (w.heap.size + 1) _ rfl rfl 24 _ hR.out (by kernel_rfl) rfl (one4 _ _ _ _) ?_)
  have kR := cells_of (setRow_heap _ _ _ #[.int .u16 v, .int .u16 t, .int .u8 x, .bool false] _ _ hR.out)
  exact bodyPost_ret (by simp [results, Try.results10, go_sem, kR]) rfl ⟨rfl, Below.setRow hG.out (by omega) _⟩
/-- one tile to the right -/
def rt (v : Int) : Int := if v % 32 = 31 then v - 31 + 1024 - 2048 * (v / 1024 % 2) else v + 1
/-- the bits across, and down, of another -/
def ac (v t : Int) : Int := v - (v % 32 + 1024 * (v / 1024 % 2)) + (t % 32 + 1024 * (t / 1024 % 2))
def tp (v t : Int) : Int := v - (32 * (v / 32 % 32) + 2048 * (v / 2048 % 16)) + (32 * (t / 32 % 32) + 2048 * (t / 2048 % 16))
/-- screens put; picture put, first and second; address put, first and second; stepped -/
def ct (t n : Int) : Int := t - 1024 * (t / 1024 % 4) + 1024 * (n % 4)
def wl (t n : Int) : Int := t - t % 32 + n / 8
def wh (t n : Int) : Int := t - 32 * (t / 32 % 32) + 32 * (n / 8) - 4096 * (t / 4096 % 8) + 4096 * (n % 8)
def al (t n : Int) : Int := t - 256 * (t / 256 % 128) + 256 * (n % 64)
def ah (t n : Int) : Int := t - t % 256 + n
def st (v : Int) (far : Bool) : Int := (v + if far then 32 else 1) % 32768
set_option maxHeartbeats 1000000 in
theorem change_right (v t x : Int) (b : Bool) (w : World) (v0 : 0 ≤ v) (v1 : v ≤ 32767) (t0 : 0 ≤ t) (t1 : t ≤ 32767) (x1 : x ≤ 7) :
    Calls Try.prog 26 #[.agg #[.int .u16 v, .int .u16 t, .int .u8 x, .bool b], .func (.func 33) #[] #[]] w fun e w' => e = .returned (.tuple #[.agg #[.int .u16 (rt v), .int .u16 t, .int .u8 x, .bool b], .int .i64 0]) ∧ Below w.heap.size w w' := by
  go_enter Try.func26, Try.ntmps26
  go_wp2_with fail
  refine (check_ok v t x b _ v1 t1 x1).mono ?_
  rintro e w1 ⟨rfl, z1⟩
  have hB := Lib.hid (old_in (heap_alloc2_old _ _ _) z1)
  have hR := Lib.hid (new_at z1 (World.size_alloc _ _))
  have hG := Lib.hid (below_call (((Below.refl w.heap.size w).alloc (Nat.le_refl _) _).alloc (by rw [World.size_alloc]; exact Nat.le_succ _) _) z1)
  clear z1
  have kB := cells_of hB.out
  go_wp2_with fail
  refine (cl_right w.heap.size v t x (rt v) b w1 hB.out v0 v1 rfl).mono ?_
  rintro e w2 ⟨rfl, hD⟩
  clear kB
  have kB := cells_of hD.row
  have hR2 := Lib.hid ((hD.chg.kept (w.heap.size + 1) (by omega)).trans hR.out)
  have hG2 := Lib.hid (hG.out.trans (hD.chg.below _ (Nat.le_refl _)))
  clear hD
  go_wp2_with (refine wpList_store_row rfl 24 (.tmp 4) (.tmp 15) rfl (w.heap.size + 1) _ rfl rfl 24 _ hR2.out (by kernel_rfl) rfl (one4 _ _ _ _) ?_)
  have kR := cells_of (setRow_heap _ _ _ #[.int .u16 (rt v), .int .u16 t, .int .u8 x, .bool b] _ _ hR2.out)
  exact bodyPost_ret (by simp [results, Try.results26, go_sem, kR]) rfl ⟨rfl, Below.setRow hG2.out (Nat.le_succ _) _⟩
set_option maxHeartbeats 1000000 in
theorem right_any (v t x : Int) (b : Bool) (w : World) (v0 : 0 ≤ v) (v1 : v ≤ 32767) (t0 : 0 ≤ t) (t1 : t ≤ 32767) (x1 : x ≤ 7) :
    Calls Try.prog 15 #[.agg #[.int .u16 v, .int .u16 t, .int .u8 x, .bool b]] w fun e w' => e = .returned (.tuple #[.agg #[.int .u16 (rt v), .int .u16 t, .int .u8 x, .bool b], .int .i64 0]) ∧ Below w.heap.size w w' := by
  go_enter Try.func15, Try.ntmps15
  go_wp2_with fail
  refine (change_right v t x b _ v0 v1 t0 t1 x1).mono ?_
  rintro e w1 ⟨rfl, z1⟩
  have hR := Lib.hid (new_at (cs := #[.int .u16 0, .int .u16 0, .int .u8 0, .bool false]) (t := 24) (n := w.heap.size + 1) z1 (by rw [World.size_alloc]))
  have hG := Lib.hid (below_call (((Below.refl w.heap.size w).alloc (Nat.le_refl _) _).alloc (by rw [World.size_alloc]; exact Nat.le_succ _) _) z1)
  clear z1
  go_wp2_with (refine wpList_store_row rfl 24 (.tmp 2) (.tmp 6) rfl (w.heap.size + 1) _ rfl rfl 24 _ hR.out (by kernel_rfl) rfl (one4 _ _ _ _) ?_)
  have kR := cells_of (setRow_heap _ _ _ #[.int .u16 (rt v), .int .u16 t, .int .u8 x, .bool b] _ _ hR.out)
  exact bodyPost_ret (by simp [results, Try.results15, go_sem, kR]) rfl ⟨rfl, Below.setRow hG.out (by omega) _⟩
set_option maxHeartbeats 1000000 in
theorem change_down (v t x : Int) (b : Bool) (w : World) (v0 : 0 ≤ v) (v1 : v ≤ 32767) (t0 : 0 ≤ t) (t1 : t ≤ 32767) (x1 : x ≤ 7) :
    Calls Try.prog 26 #[.agg #[.int .u16 v, .int .u16 t, .int .u8 x, .bool b], .func (.func 34) #[] #[]] w fun e w' => e = .returned (.tuple #[.agg #[.int .u16 (dn v), .int .u16 t, .int .u8 x, .bool b], .int .i64 0]) ∧ Below w.heap.size w w' := by
  go_enter Try.func26, Try.ntmps26
  go_wp2_with fail
  refine (check_ok v t x b _ v1 t1 x1).mono ?_
  rintro e w1 ⟨rfl, z1⟩
  have hB := Lib.hid (old_in (heap_alloc2_old _ _ _) z1)
  have hR := Lib.hid (new_at z1 (World.size_alloc _ _))
  have hG := Lib.hid (below_call (((Below.refl w.heap.size w).alloc (Nat.le_refl _) _).alloc (by rw [World.size_alloc]; exact Nat.le_succ _) _) z1)
  clear z1
  have kB := cells_of hB.out
  go_wp2_with fail
  refine (cl_down w.heap.size v t x (dn v) b w1 hB.out v0 v1 rfl).mono ?_
  rintro e w2 ⟨rfl, hD⟩
  clear kB
  have kB := cells_of hD.row
  have hR2 := Lib.hid ((hD.chg.kept (w.heap.size + 1) (by omega)).trans hR.out)
  have hG2 := Lib.hid (hG.out.trans (hD.chg.below _ (Nat.le_refl _)))
  clear hD
  go_wp2_with (refine wpList_store_row rfl 24 (.tmp 4) (.tmp 15) rfl (w.heap.size + 1) _ rfl rfl 24 _ hR2.out (by kernel_rfl) rfl (one4 _ _ _ _) ?_)
  have kR := cells_of (setRow_heap _ _ _ #[.int .u16 (dn v), .int .u16 t, .int .u8 x, .bool b] _ _ hR2.out)
  exact bodyPost_ret (by simp [results, Try.results26, go_sem, kR]) rfl ⟨rfl, Below.setRow hG2.out (Nat.le_succ _) _⟩
set_option maxHeartbeats 1000000 in
theorem down_any (v t x : Int) (b : Bool) (w : World) (v0 : 0 ≤ v) (v1 : v ≤ 32767) (t0 : 0 ≤ t) (t1 : t ≤ 32767) (x1 : x ≤ 7) :
    Calls Try.prog 16 #[.agg #[.int .u16 v, .int .u16 t, .int .u8 x, .bool b]] w fun e w' => e = .returned (.tuple #[.agg #[.int .u16 (dn v), .int .u16 t, .int .u8 x, .bool b], .int .i64 0]) ∧ Below w.heap.size w w' := by
  go_enter Try.func16, Try.ntmps16
  go_wp2_with fail
  refine (change_down v t x b _ v0 v1 t0 t1 x1).mono ?_
  rintro e w1 ⟨rfl, z1⟩
  have hR := Lib.hid (new_at (cs := #[.int .u16 0, .int .u16 0, .int .u8 0, .bool false]) (t := 24) (n := w.heap.size + 1) z1 (by rw [World.size_alloc]))
  have hG := Lib.hid (below_call (((Below.refl w.heap.size w).alloc (Nat.le_refl _) _).alloc (by rw [World.size_alloc]; exact Nat.le_succ _) _) z1)
  clear z1
  go_wp2_with (refine wpList_store_row rfl 24 (.tmp 2) (.tmp 6) rfl (w.heap.size + 1) _ rfl rfl 24 _ hR.out (by kernel_rfl) rfl (one4 _ _ _ _) ?_)
  have kR := cells_of (setRow_heap _ _ _ #[.int .u16 (dn v), .int .u16 t, .int .u8 x, .bool b] _ _ hR.out)
  exact bodyPost_ret (by simp [results, Try.results16, go_sem, kR]) rfl ⟨rfl, Below.setRow hG.out (by omega) _⟩
set_option maxHeartbeats 1000000 in
theorem change_across (v t x : Int) (b : Bool) (w : World) (v0 : 0 ≤ v) (v1 : v ≤ 32767) (t0 : 0 ≤ t) (t1 : t ≤ 32767) (x1 : x ≤ 7) :
    Calls Try.prog 26 #[.agg #[.int .u16 v, .int .u16 t, .int .u8 x, .bool b], .func (.func 31) #[] #[]] w fun e w' => e = .returned (.tuple #[.agg #[.int .u16 (ac v t), .int .u16 t, .int .u8 x, .bool b], .int .i64 0]) ∧ Below w.heap.size w w' := by
  go_enter Try.func26, Try.ntmps26
  go_wp2_with fail
  refine (check_ok v t x b _ v1 t1 x1).mono ?_
  rintro e w1 ⟨rfl, z1⟩
  have hB := Lib.hid (old_in (heap_alloc2_old _ _ _) z1)
  have hR := Lib.hid (new_at z1 (World.size_alloc _ _))
  have hG := Lib.hid (below_call (((Below.refl w.heap.size w).alloc (Nat.le_refl _) _).alloc (by rw [World.size_alloc]; exact Nat.le_succ _) _) z1)
  clear z1
  have kB := cells_of hB.out
  go_wp2_with fail
  refine (cl_across w.heap.size v t x (ac v t) b w1 hB.out v0 v1 t0 t1 rfl).mono ?_
  rintro e w2 ⟨rfl, hD⟩
  clear kB
  have kB := cells_of hD.row
  have hR2 := Lib.hid ((hD.chg.kept (w.heap.size + 1) (by omega)).trans hR.out)
  have hG2 := Lib.hid (hG.out.trans (hD.chg.below _ (Nat.le_refl _)))
  clear hD
  go_wp2_with (refine wpList_store_row rfl 24 (.tmp 4) (.tmp 15) rfl (w.heap.size + 1) _ rfl rfl 24 _ hR2.out (by kernel_rfl) rfl (one4 _ _ _ _) ?_)
  have kR := cells_of (setRow_heap _ _ _ #[.int .u16 (ac v t), .int .u16 t, .int .u8 x, .bool b] _ _ hR2.out)
  exact bodyPost_ret (by simp [results, Try.results26, go_sem, kR]) rfl ⟨rfl, Below.setRow hG2.out (Nat.le_succ _) _⟩
set_option maxHeartbeats 1000000 in
theorem across_any (v t x : Int) (b : Bool) (w : World) (v0 : 0 ≤ v) (v1 : v ≤ 32767) (t0 : 0 ≤ t) (t1 : t ≤ 32767) (x1 : x ≤ 7) :
    Calls Try.prog 13 #[.agg #[.int .u16 v, .int .u16 t, .int .u8 x, .bool b]] w fun e w' => e = .returned (.tuple #[.agg #[.int .u16 (ac v t), .int .u16 t, .int .u8 x, .bool b], .int .i64 0]) ∧ Below w.heap.size w w' := by
  go_enter Try.func13, Try.ntmps13
  go_wp2_with fail
  refine (change_across v t x b _ v0 v1 t0 t1 x1).mono ?_
  rintro e w1 ⟨rfl, z1⟩
  have hR := Lib.hid (new_at (cs := #[.int .u16 0, .int .u16 0, .int .u8 0, .bool false]) (t := 24) (n := w.heap.size + 1) z1 (by rw [World.size_alloc]))
  have hG := Lib.hid (below_call (((Below.refl w.heap.size w).alloc (Nat.le_refl _) _).alloc (by rw [World.size_alloc]; exact Nat.le_succ _) _) z1)
  clear z1
  go_wp2_with (refine wpList_store_row rfl 24 (.tmp 2) (.tmp 6) rfl (w.heap.size + 1) _ rfl rfl 24 _ hR.out (by kernel_rfl) rfl (one4 _ _ _ _) ?_)
  have kR := cells_of (setRow_heap _ _ _ #[.int .u16 (ac v t), .int .u16 t, .int .u8 x, .bool b] _ _ hR.out)
  exact bodyPost_ret (by simp [results, Try.results13, go_sem, kR]) rfl ⟨rfl, Below.setRow hG.out (by omega) _⟩
set_option maxHeartbeats 1000000 in
theorem change_top (v t x : Int) (b : Bool) (w : World) (v0 : 0 ≤ v) (v1 : v ≤ 32767) (t0 : 0 ≤ t) (t1 : t ≤ 32767) (x1 : x ≤ 7) :
    Calls Try.prog 26 #[.agg #[.int .u16 v, .int .u16 t, .int .u8 x, .bool b], .func (.func 32) #[] #[]] w fun e w' => e = .returned (.tuple #[.agg #[.int .u16 (tp v t), .int .u16 t, .int .u8 x, .bool b], .int .i64 0]) ∧ Below w.heap.size w w' := by
  go_enter Try.func26, Try.ntmps26
  go_wp2_with fail
  refine (check_ok v t x b _ v1 t1 x1).mono ?_
  rintro e w1 ⟨rfl, z1⟩
  have hB := Lib.hid (old_in (heap_alloc2_old _ _ _) z1)
  have hR := Lib.hid (new_at z1 (World.size_alloc _ _))
  have hG := Lib.hid (below_call (((Below.refl w.heap.size w).alloc (Nat.le_refl _) _).alloc (by rw [World.size_alloc]; exact Nat.le_succ _) _) z1)
  clear z1
  have kB := cells_of hB.out
  go_wp2_with fail
  refine (cl_top w.heap.size v t x (tp v t) b w1 hB.out v0 v1 t0 t1 rfl).mono ?_
  rintro e w2 ⟨rfl, hD⟩
  clear kB
  have kB := cells_of hD.row
  have hR2 := Lib.hid ((hD.chg.kept (w.heap.size + 1) (by omega)).trans hR.out)
  have hG2 := Lib.hid (hG.out.trans (hD.chg.below _ (Nat.le_refl _)))
  clear hD
  go_wp2_with (refine wpList_store_row rfl 24 (.tmp 4) (.tmp 15) rfl (w.heap.size + 1) _ rfl rfl 24 _ hR2.out (by kernel_rfl) rfl (one4 _ _ _ _) ?_)
  have kR := cells_of (setRow_heap _ _ _ #[.int .u16 (tp v t), .int .u16 t, .int .u8 x, .bool b] _ _ hR2.out)
  exact bodyPost_ret (by simp [results, Try.results26, go_sem, kR]) rfl ⟨rfl, Below.setRow hG2.out (Nat.le_succ _) _⟩
set_option maxHeartbeats 1000000 in
theorem top_any (v t x : Int) (b : Bool) (w : World) (v0 : 0 ≤ v) (v1 : v ≤ 32767) (t0 : 0 ≤ t) (t1 : t ≤ 32767) (x1 : x ≤ 7) :
    Calls Try.prog 14 #[.agg #[.int .u16 v, .int .u16 t, .int .u8 x, .bool b]] w fun e w' => e = .returned (.tuple #[.agg #[.int .u16 (tp v t), .int .u16 t, .int .u8 x, .bool b], .int .i64 0]) ∧ Below w.heap.size w w' := by
  go_enter Try.func14, Try.ntmps14
  go_wp2_with fail
  refine (change_top v t x b _ v0 v1 t0 t1 x1).mono ?_
  rintro e w1 ⟨rfl, z1⟩
  have hR := Lib.hid (new_at (cs := #[.int .u16 0, .int .u16 0, .int .u8 0, .bool false]) (t := 24) (n := w.heap.size + 1) z1 (by rw [World.size_alloc]))
  have hG := Lib.hid (below_call (((Below.refl w.heap.size w).alloc (Nat.le_refl _) _).alloc (by rw [World.size_alloc]; exact Nat.le_succ _) _) z1)
  clear z1
  go_wp2_with (refine wpList_store_row rfl 24 (.tmp 2) (.tmp 6) rfl (w.heap.size + 1) _ rfl rfl 24 _ hR.out (by kernel_rfl) rfl (one4 _ _ _ _) ?_)
  have kR := cells_of (setRow_heap _ _ _ #[.int .u16 (tp v t), .int .u16 t, .int .u8 x, .bool b] _ _ hR.out)
  exact bodyPost_ret (by simp [results, Try.results14, go_sem, kR]) rfl ⟨rfl, Below.setRow hG.out (by omega) _⟩
set_option maxHeartbeats 1000000 in
theorem change_control (C : Nat) (v t x n : Int) (b : Bool) (w : World) (v0 : 0 ≤ v) (v1 : v ≤ 32767) (t0 : 0 ≤ t) (t1 : t ≤ 32767) (x1 : x ≤ 7) (n0 : 0 ≤ n) (n1 : n ≤ 255) (hC : Oct w C n) :
    Calls Try.prog 26 #[.agg #[.int .u16 v, .int .u16 t, .int .u8 x, .bool b], .func (.func 38) #[] #[.pointer (some ⟨C, 0, none⟩)]] w fun e w' => e = .returned (.tuple #[.agg #[.int .u16 v, .int .u16 (ct t n), .int .u8 x, .bool b], .int .i64 0]) ∧ Below w.heap.size w w' := by
  go_enter Try.func26, Try.ntmps26
  go_wp2_with fail
  refine (check_ok v t x b _ v1 t1 x1).mono ?_
  rintro e w1 ⟨rfl, z1⟩
  have hB := Lib.hid (old_in (heap_alloc2_old _ _ _) z1)
  have hR := Lib.hid (new_at z1 (World.size_alloc _ _))
  have hG := Lib.hid (below_call (((Below.refl w.heap.size w).alloc (Nat.le_refl _) _).alloc (by rw [World.size_alloc]; exact Nat.le_succ _) _) z1)
  have hlt := lt_of_row hC
  have hC1 := Lib.hid (show Oct w1 C n from (hG.out.block C hlt).trans hC)
  clear z1
  have kB := cells_of hB.out
  go_wp2_with fail
  refine (cl_control w.heap.size C v t x n (ct t n) b w1 hB.out hC1.out t0 t1 n0 n1 rfl).mono ?_
  rintro e w2 ⟨rfl, hD⟩
  clear kB
  have kB := cells_of hD.row
  have hR2 := Lib.hid ((hD.chg.kept (w.heap.size + 1) (by omega)).trans hR.out)
  have hG2 := Lib.hid (hG.out.trans (hD.chg.below _ (Nat.le_refl _)))
  clear hD
  go_wp2_with (refine wpList_store_row rfl 24 (.tmp 4) (.tmp 15) rfl (w.heap.size + 1) _ rfl rfl 24 _ hR2.out (by kernel_rfl) rfl (one4 _ _ _ _) ?_)
  have kR := cells_of (setRow_heap _ _ _ #[.int .u16 v, .int .u16 (ct t n), .int .u8 x, .bool b] _ _ hR2.out)
  exact bodyPost_ret (by simp [results, Try.results26, go_sem, kR]) rfl ⟨rfl, Below.setRow hG2.out (Nat.le_succ _) _⟩
set_option maxHeartbeats 1000000 in
theorem control_any (v t x : Int) (b : Bool) (n : Int) (w : World) (v0 : 0 ≤ v) (v1 : v ≤ 32767) (t0 : 0 ≤ t) (t1 : t ≤ 32767) (x1 : x ≤ 7) (n0 : 0 ≤ n) (n1 : n ≤ 255) :
    Calls Try.prog 35 #[.agg #[.int .u16 v, .int .u16 t, .int .u8 x, .bool b], .int .u8 n] w fun e w' => e = .returned (.tuple #[.agg #[.int .u16 v, .int .u16 (ct t n), .int .u8 x, .bool b], .int .i64 0]) ∧ Below w.heap.size w w' := by
  go_enter Try.func35, Try.ntmps35
  go_wp2_with fail
  have hC : (((w.alloc (.cells #[.int .u16 v, .int .u16 t, .int .u8 x, .bool b] 24)).alloc (.cells #[.int .u8 n] 5)).alloc (.cells #[.int .u16 0, .int .u16 0, .int .u8 0, .bool false] 24)).heap[w.heap.size + 1]? = some (.cells #[.int .u8 n] 5 (0, 0)) := old_new (by have q := heap_alloc_new (w.alloc (.cells #[.int .u16 v, .int .u16 t, .int .u8 x, .bool b] 24)) (.cells #[.int .u8 n] 5); rwa [World.size_alloc] at q) _
  refine (change_control (w.heap.size + 1) v t x n b _ v0 v1 t0 t1 x1 n0 n1 hC).mono ?_
  rintro e w1 ⟨rfl, z1⟩
  have hR := Lib.hid (new_at (cs := #[.int .u16 0, .int .u16 0, .int .u8 0, .bool false]) (t := 24) (n := w.heap.size + 1 + 1) z1 (by rw [World.size_alloc, World.size_alloc]))
  have hG := Lib.hid (below_call ((((Below.refl w.heap.size w).alloc (Nat.le_refl _) _).alloc (by rw [World.size_alloc]; exact Nat.le_succ _) _).alloc (by rw [World.size_alloc, World.size_alloc]; omega) _) z1)
  clear z1 hC
  go_wp2_with (refine wpList_store_row rfl 24 (.tmp 4) (.tmp 9) rfl (w.heap.size + 1 + 1) _ rfl rfl 24 _ hR.out (by kernel_rfl) rfl (one4 _ _ _ _) ?_)
  have kR := cells_of (setRow_heap _ _ _ #[.int .u16 v, .int .u16 (ct t n), .int .u8 x, .bool b] _ _ hR.out)
  exact bodyPost_ret (by simp [results, Try.results35, go_sem, kR]) rfl ⟨rfl, Below.setRow hG.out (by omega) _⟩
set_option maxHeartbeats 1000000 in
theorem change_write_lo (C : Nat) (v t x n : Int) (w : World) (v0 : 0 ≤ v) (v1 : v ≤ 32767) (t0 : 0 ≤ t) (t1 : t ≤ 32767) (x1 : x ≤ 7) (n0 : 0 ≤ n) (n1 : n ≤ 255) (hC : Oct w C n) :
    Calls Try.prog 26 #[.agg #[.int .u16 v, .int .u16 t, .int .u8 x, .bool false], .func (.func 30) #[] #[.pointer (some ⟨C, 0, none⟩)]] w fun e w' => e = .returned (.tuple #[.agg #[.int .u16 v, .int .u16 (wl t n), .int .u8 (n % 8), .bool true], .int .i64 0]) ∧ Below w.heap.size w w' := by
  go_enter Try.func26, Try.ntmps26
  go_wp2_with fail
  refine (check_ok v t x false _ v1 t1 x1).mono ?_
  rintro e w1 ⟨rfl, z1⟩
  have hB := Lib.hid (old_in (heap_alloc2_old _ _ _) z1)
  have hR := Lib.hid (new_at z1 (World.size_alloc _ _))
  have hG := Lib.hid (below_call (((Below.refl w.heap.size w).alloc (Nat.le_refl _) _).alloc (by rw [World.size_alloc]; exact Nat.le_succ _) _) z1)
  have hlt := lt_of_row hC
  have hC1 := Lib.hid (show Oct w1 C n from (hG.out.block C hlt).trans hC)
  clear z1
  have kB := cells_of hB.out
  go_wp2_with fail
  refine (cl_write_lo w.heap.size C v t x n (wl t n) w1 hB.out hC1.out t0 t1 n0 n1 rfl).mono ?_
  rintro e w2 ⟨rfl, hD⟩
  clear kB
  have kB := cells_of hD.row
  have hR2 := Lib.hid ((hD.chg.kept (w.heap.size + 1) (by omega)).trans hR.out)
  have hG2 := Lib.hid (hG.out.trans (hD.chg.below _ (Nat.le_refl _)))
  clear hD
  go_wp2_with (refine wpList_store_row rfl 24 (.tmp 4) (.tmp 15) rfl (w.heap.size + 1) _ rfl rfl 24 _ hR2.out (by kernel_rfl) rfl (one4 _ _ _ _) ?_)
  have kR := cells_of (setRow_heap _ _ _ #[.int .u16 v, .int .u16 (wl t n), .int .u8 (n % 8), .bool true] _ _ hR2.out)
  exact bodyPost_ret (by simp [results, Try.results26, go_sem, kR]) rfl ⟨rfl, Below.setRow hG2.out (Nat.le_succ _) _⟩
set_option maxHeartbeats 1000000 in
theorem write_lo_any (v t x : Int)  (n : Int) (w : World) (v0 : 0 ≤ v) (v1 : v ≤ 32767) (t0 : 0 ≤ t) (t1 : t ≤ 32767) (x1 : x ≤ 7) (n0 : 0 ≤ n) (n1 : n ≤ 255) :
    Calls Try.prog 12 #[.agg #[.int .u16 v, .int .u16 t, .int .u8 x, .bool false], .int .u8 n] w fun e w' => e = .returned (.tuple #[.agg #[.int .u16 v, .int .u16 (wl t n), .int .u8 (n % 8), .bool true], .int .i64 0]) ∧ Below w.heap.size w w' := by
  go_enter Try.func12, Try.ntmps12
  go_wp2_with fail
  have hC : (((w.alloc (.cells #[.int .u16 v, .int .u16 t, .int .u8 x, .bool false] 24)).alloc (.cells #[.int .u8 n] 5)).alloc (.cells #[.int .u16 0, .int .u16 0, .int .u8 0, .bool false] 24)).heap[w.heap.size + 1]? = some (.cells #[.int .u8 n] 5 (0, 0)) := old_new (by have q := heap_alloc_new (w.alloc (.cells #[.int .u16 v, .int .u16 t, .int .u8 x, .bool false] 24)) (.cells #[.int .u8 n] 5); rwa [World.size_alloc] at q) _
  refine (change_write_lo (w.heap.size + 1) v t x n _ v0 v1 t0 t1 x1 n0 n1 hC).mono ?_
  rintro e w1 ⟨rfl, z1⟩
  have hR := Lib.hid (new_at (cs := #[.int .u16 0, .int .u16 0, .int .u8 0, .bool false]) (t := 24) (n := w.heap.size + 1 + 1) z1 (by rw [World.size_alloc, World.size_alloc]))
  have hG := Lib.hid (below_call ((((Below.refl w.heap.size w).alloc (Nat.le_refl _) _).alloc (by rw [World.size_alloc]; exact Nat.le_succ _) _).alloc (by rw [World.size_alloc, World.size_alloc]; omega) _) z1)
  clear z1 hC
  go_wp2_with (refine wpList_store_row rfl 24 (.tmp 4) (.tmp 9) rfl (w.heap.size + 1 + 1) _ rfl rfl 24 _ hR.out (by kernel_rfl) rfl (one4 _ _ _ _) ?_)
  have kR := cells_of (setRow_heap _ _ _ #[.int .u16 v, .int .u16 (wl t n), .int .u8 (n % 8), .bool true] _ _ hR.out)
  exact bodyPost_ret (by simp [results, Try.results12, go_sem, kR]) rfl ⟨rfl, Below.setRow hG.out (by omega) _⟩
set_option maxHeartbeats 1000000 in
theorem change_write_hi (C : Nat) (v t x n : Int) (w : World) (v0 : 0 ≤ v) (v1 : v ≤ 32767) (t0 : 0 ≤ t) (t1 : t ≤ 32767) (x1 : x ≤ 7) (n0 : 0 ≤ n) (n1 : n ≤ 255) (hC : Oct w C n) :
    Calls Try.prog 26 #[.agg #[.int .u16 v, .int .u16 t, .int .u8 x, .bool true], .func (.func 30) #[] #[.pointer (some ⟨C, 0, none⟩)]] w fun e w' => e = .returned (.tuple #[.agg #[.int .u16 v, .int .u16 (wh t n), .int .u8 x, .bool false], .int .i64 0]) ∧ Below w.heap.size w w' := by
  go_enter Try.func26, Try.ntmps26
  go_wp2_with fail
  refine (check_ok v t x true _ v1 t1 x1).mono ?_
  rintro e w1 ⟨rfl, z1⟩
  have hB := Lib.hid (old_in (heap_alloc2_old _ _ _) z1)
  have hR := Lib.hid (new_at z1 (World.size_alloc _ _))
  have hG := Lib.hid (below_call (((Below.refl w.heap.size w).alloc (Nat.le_refl _) _).alloc (by rw [World.size_alloc]; exact Nat.le_succ _) _) z1)
  have hlt := lt_of_row hC
  have hC1 := Lib.hid (show Oct w1 C n from (hG.out.block C hlt).trans hC)
  clear z1
  have kB := cells_of hB.out
  go_wp2_with fail
  refine (cl_write_hi w.heap.size C v t x n (wh t n) w1 hB.out hC1.out (by omega) t0 t1 n0 n1 rfl).mono ?_
  rintro e w2 ⟨rfl, hD⟩
  clear kB
  have kB := cells_of hD.row
  have hR2 := Lib.hid ((hD.chg.kept (w.heap.size + 1) (by omega)).trans hR.out)
  have hG2 := Lib.hid (hG.out.trans (hD.chg.below _ (Nat.le_refl _)))
  clear hD
  go_wp2_with (refine wpList_store_row rfl 24 (.tmp 4) (.tmp 15) rfl (w.heap.size + 1) _ rfl rfl 24 _ hR2.out (by kernel_rfl) rfl (one4 _ _ _ _) ?_)
  have kR := cells_of (setRow_heap _ _ _ #[.int .u16 v, .int .u16 (wh t n), .int .u8 x, .bool false] _ _ hR2.out)
  exact bodyPost_ret (by simp [results, Try.results26, go_sem, kR]) rfl ⟨rfl, Below.setRow hG2.out (Nat.le_succ _) _⟩
set_option maxHeartbeats 1000000 in
theorem write_hi_any (v t x : Int)  (n : Int) (w : World) (v0 : 0 ≤ v) (v1 : v ≤ 32767) (t0 : 0 ≤ t) (t1 : t ≤ 32767) (x1 : x ≤ 7) (n0 : 0 ≤ n) (n1 : n ≤ 255) :
    Calls Try.prog 12 #[.agg #[.int .u16 v, .int .u16 t, .int .u8 x, .bool true], .int .u8 n] w fun e w' => e = .returned (.tuple #[.agg #[.int .u16 v, .int .u16 (wh t n), .int .u8 x, .bool false], .int .i64 0]) ∧ Below w.heap.size w w' := by
  go_enter Try.func12, Try.ntmps12
  go_wp2_with fail
  have hC : (((w.alloc (.cells #[.int .u16 v, .int .u16 t, .int .u8 x, .bool true] 24)).alloc (.cells #[.int .u8 n] 5)).alloc (.cells #[.int .u16 0, .int .u16 0, .int .u8 0, .bool false] 24)).heap[w.heap.size + 1]? = some (.cells #[.int .u8 n] 5 (0, 0)) := old_new (by have q := heap_alloc_new (w.alloc (.cells #[.int .u16 v, .int .u16 t, .int .u8 x, .bool true] 24)) (.cells #[.int .u8 n] 5); rwa [World.size_alloc] at q) _
  refine (change_write_hi (w.heap.size + 1) v t x n _ v0 v1 t0 t1 x1 n0 n1 hC).mono ?_
  rintro e w1 ⟨rfl, z1⟩
  have hR := Lib.hid (new_at (cs := #[.int .u16 0, .int .u16 0, .int .u8 0, .bool false]) (t := 24) (n := w.heap.size + 1 + 1) z1 (by rw [World.size_alloc, World.size_alloc]))
  have hG := Lib.hid (below_call ((((Below.refl w.heap.size w).alloc (Nat.le_refl _) _).alloc (by rw [World.size_alloc]; exact Nat.le_succ _) _).alloc (by rw [World.size_alloc, World.size_alloc]; omega) _) z1)
  clear z1 hC
  go_wp2_with (refine wpList_store_row rfl 24 (.tmp 4) (.tmp 9) rfl (w.heap.size + 1 + 1) _ rfl rfl 24 _ hR.out (by kernel_rfl) rfl (one4 _ _ _ _) ?_)
  have kR := cells_of (setRow_heap _ _ _ #[.int .u16 v, .int .u16 (wh t n), .int .u8 x, .bool false] _ _ hR.out)
  exact bodyPost_ret (by simp [results, Try.results12, go_sem, kR]) rfl ⟨rfl, Below.setRow hG.out (by omega) _⟩
set_option maxHeartbeats 1000000 in
theorem change_addr_lo (C : Nat) (v t x n : Int) (w : World) (v0 : 0 ≤ v) (v1 : v ≤ 32767) (t0 : 0 ≤ t) (t1 : t ≤ 32767) (x1 : x ≤ 7) (n0 : 0 ≤ n) (n1 : n ≤ 255) (hC : Oct w C n) :
    Calls Try.prog 26 #[.agg #[.int .u16 v, .int .u16 t, .int .u8 x, .bool false], .func (.func 28) #[] #[.pointer (some ⟨C, 0, none⟩)]] w fun e w' => e = .returned (.tuple #[.agg #[.int .u16 v, .int .u16 (al t n), .int .u8 x, .bool true], .int .i64 0]) ∧ Below w.heap.size w w' := by
  go_enter Try.func26, Try.ntmps26
  go_wp2_with fail
  refine (check_ok v t x false _ v1 t1 x1).mono ?_
  rintro e w1 ⟨rfl, z1⟩
  have hB := Lib.hid (old_in (heap_alloc2_old _ _ _) z1)
  have hR := Lib.hid (new_at z1 (World.size_alloc _ _))
  have hG := Lib.hid (below_call (((Below.refl w.heap.size w).alloc (Nat.le_refl _) _).alloc (by rw [World.size_alloc]; exact Nat.le_succ _) _) z1)
  have hlt := lt_of_row hC
  have hC1 := Lib.hid (show Oct w1 C n from (hG.out.block C hlt).trans hC)
  clear z1
  have kB := cells_of hB.out
  go_wp2_with fail
  refine (cl_addr_lo w.heap.size C v t x n (al t n) w1 hB.out hC1.out t0 t1 n0 n1 rfl).mono ?_
  rintro e w2 ⟨rfl, hD⟩
  clear kB
  have kB := cells_of hD.row
  have hR2 := Lib.hid ((hD.chg.kept (w.heap.size + 1) (by omega)).trans hR.out)
  have hG2 := Lib.hid (hG.out.trans (hD.chg.below _ (Nat.le_refl _)))
  clear hD
  go_wp2_with (refine wpList_store_row rfl 24 (.tmp 4) (.tmp 15) rfl (w.heap.size + 1) _ rfl rfl 24 _ hR2.out (by kernel_rfl) rfl (one4 _ _ _ _) ?_)
  have kR := cells_of (setRow_heap _ _ _ #[.int .u16 v, .int .u16 (al t n), .int .u8 x, .bool true] _ _ hR2.out)
  exact bodyPost_ret (by simp [results, Try.results26, go_sem, kR]) rfl ⟨rfl, Below.setRow hG2.out (Nat.le_succ _) _⟩
set_option maxHeartbeats 1000000 in
theorem addr_lo_any (v t x : Int)  (n : Int) (w : World) (v0 : 0 ≤ v) (v1 : v ≤ 32767) (t0 : 0 ≤ t) (t1 : t ≤ 32767) (x1 : x ≤ 7) (n0 : 0 ≤ n) (n1 : n ≤ 255) :
    Calls Try.prog 11 #[.agg #[.int .u16 v, .int .u16 t, .int .u8 x, .bool false], .int .u8 n] w fun e w' => e = .returned (.tuple #[.agg #[.int .u16 v, .int .u16 (al t n), .int .u8 x, .bool true], .int .i64 0]) ∧ Below w.heap.size w w' := by
  go_enter Try.func11, Try.ntmps11
  go_wp2_with fail
  have hC : (((w.alloc (.cells #[.int .u16 v, .int .u16 t, .int .u8 x, .bool false] 24)).alloc (.cells #[.int .u8 n] 5)).alloc (.cells #[.int .u16 0, .int .u16 0, .int .u8 0, .bool false] 24)).heap[w.heap.size + 1]? = some (.cells #[.int .u8 n] 5 (0, 0)) := old_new (by have q := heap_alloc_new (w.alloc (.cells #[.int .u16 v, .int .u16 t, .int .u8 x, .bool false] 24)) (.cells #[.int .u8 n] 5); rwa [World.size_alloc] at q) _
  refine (change_addr_lo (w.heap.size + 1) v t x n _ v0 v1 t0 t1 x1 n0 n1 hC).mono ?_
  rintro e w1 ⟨rfl, z1⟩
  have hR := Lib.hid (new_at (cs := #[.int .u16 0, .int .u16 0, .int .u8 0, .bool false]) (t := 24) (n := w.heap.size + 1 + 1) z1 (by rw [World.size_alloc, World.size_alloc]))
  have hG := Lib.hid (below_call ((((Below.refl w.heap.size w).alloc (Nat.le_refl _) _).alloc (by rw [World.size_alloc]; exact Nat.le_succ _) _).alloc (by rw [World.size_alloc, World.size_alloc]; omega) _) z1)
  clear z1 hC
  go_wp2_with (refine wpList_store_row rfl 24 (.tmp 4) (.tmp 9) rfl (w.heap.size + 1 + 1) _ rfl rfl 24 _ hR.out (by kernel_rfl) rfl (one4 _ _ _ _) ?_)
  have kR := cells_of (setRow_heap _ _ _ #[.int .u16 v, .int .u16 (al t n), .int .u8 x, .bool true] _ _ hR.out)
  exact bodyPost_ret (by simp [results, Try.results11, go_sem, kR]) rfl ⟨rfl, Below.setRow hG.out (by omega) _⟩
set_option maxHeartbeats 1000000 in
theorem change_addr_hi (C : Nat) (v t x n : Int) (w : World) (v0 : 0 ≤ v) (v1 : v ≤ 32767) (t0 : 0 ≤ t) (t1 : t ≤ 32767) (x1 : x ≤ 7) (n0 : 0 ≤ n) (n1 : n ≤ 255) (hC : Oct w C n) :
    Calls Try.prog 26 #[.agg #[.int .u16 v, .int .u16 t, .int .u8 x, .bool true], .func (.func 28) #[] #[.pointer (some ⟨C, 0, none⟩)]] w fun e w' => e = .returned (.tuple #[.agg #[.int .u16 (ah t n), .int .u16 (ah t n), .int .u8 x, .bool false], .int .i64 0]) ∧ Below w.heap.size w w' := by
  go_enter Try.func26, Try.ntmps26
  go_wp2_with fail
  refine (check_ok v t x true _ v1 t1 x1).mono ?_
  rintro e w1 ⟨rfl, z1⟩
  have hB := Lib.hid (old_in (heap_alloc2_old _ _ _) z1)
  have hR := Lib.hid (new_at z1 (World.size_alloc _ _))
  have hG := Lib.hid (below_call (((Below.refl w.heap.size w).alloc (Nat.le_refl _) _).alloc (by rw [World.size_alloc]; exact Nat.le_succ _) _) z1)
  have hlt := lt_of_row hC
  have hC1 := Lib.hid (show Oct w1 C n from (hG.out.block C hlt).trans hC)
  clear z1
  have kB := cells_of hB.out
  go_wp2_with fail
  refine (cl_addr_hi w.heap.size C v t x n (ah t n) w1 hB.out hC1.out t0 t1 n0 n1 rfl).mono ?_
  rintro e w2 ⟨rfl, hD⟩
  clear kB
  have kB := cells_of hD.row
  have hR2 := Lib.hid ((hD.chg.kept (w.heap.size + 1) (by omega)).trans hR.out)
  have hG2 := Lib.hid (hG.out.trans (hD.chg.below _ (Nat.le_refl _)))
  clear hD
  go_wp2_with (refine wpList_store_row rfl 24 (.tmp 4) (.tmp 15) rfl (w.heap.size + 1) _ rfl rfl 24 _ hR2.out (by kernel_rfl) rfl (one4 _ _ _ _) ?_)
  have kR := cells_of (setRow_heap _ _ _ #[.int .u16 (ah t n), .int .u16 (ah t n), .int .u8 x, .bool false] _ _ hR2.out)
  exact bodyPost_ret (by simp [results, Try.results26, go_sem, kR]) rfl ⟨rfl, Below.setRow hG2.out (Nat.le_succ _) _⟩
set_option maxHeartbeats 1000000 in
theorem addr_hi_any (v t x : Int)  (n : Int) (w : World) (v0 : 0 ≤ v) (v1 : v ≤ 32767) (t0 : 0 ≤ t) (t1 : t ≤ 32767) (x1 : x ≤ 7) (n0 : 0 ≤ n) (n1 : n ≤ 255) :
    Calls Try.prog 11 #[.agg #[.int .u16 v, .int .u16 t, .int .u8 x, .bool true], .int .u8 n] w fun e w' => e = .returned (.tuple #[.agg #[.int .u16 (ah t n), .int .u16 (ah t n), .int .u8 x, .bool false], .int .i64 0]) ∧ Below w.heap.size w w' := by
  go_enter Try.func11, Try.ntmps11
  go_wp2_with fail
  have hC : (((w.alloc (.cells #[.int .u16 v, .int .u16 t, .int .u8 x, .bool true] 24)).alloc (.cells #[.int .u8 n] 5)).alloc (.cells #[.int .u16 0, .int .u16 0, .int .u8 0, .bool false] 24)).heap[w.heap.size + 1]? = some (.cells #[.int .u8 n] 5 (0, 0)) := old_new (by have q := heap_alloc_new (w.alloc (.cells #[.int .u16 v, .int .u16 t, .int .u8 x, .bool true] 24)) (.cells #[.int .u8 n] 5); rwa [World.size_alloc] at q) _
  refine (change_addr_hi (w.heap.size + 1) v t x n _ v0 v1 t0 t1 x1 n0 n1 hC).mono ?_
  rintro e w1 ⟨rfl, z1⟩
  have hR := Lib.hid (new_at (cs := #[.int .u16 0, .int .u16 0, .int .u8 0, .bool false]) (t := 24) (n := w.heap.size + 1 + 1) z1 (by rw [World.size_alloc, World.size_alloc]))
  have hG := Lib.hid (below_call ((((Below.refl w.heap.size w).alloc (Nat.le_refl _) _).alloc (by rw [World.size_alloc]; exact Nat.le_succ _) _).alloc (by rw [World.size_alloc, World.size_alloc]; omega) _) z1)
  clear z1 hC
  go_wp2_with (refine wpList_store_row rfl 24 (.tmp 4) (.tmp 9) rfl (w.heap.size + 1 + 1) _ rfl rfl 24 _ hR.out (by kernel_rfl) rfl (one4 _ _ _ _) ?_)
  have kR := cells_of (setRow_heap _ _ _ #[.int .u16 (ah t n), .int .u16 (ah t n), .int .u8 x, .bool false] _ _ hR.out)
  exact bodyPost_ret (by simp [results, Try.results11, go_sem, kR]) rfl ⟨rfl, Below.setRow hG.out (by omega) _⟩
set_option maxHeartbeats 1000000 in
theorem change_step (C : Nat) (v t x : Int) (b : Bool) (n : Bool) (w : World) (v0 : 0 ≤ v) (v1 : v ≤ 32767) (t0 : 0 ≤ t) (t1 : t ≤ 32767) (x1 : x ≤ 7) (hC : Bit w C n) :
    Calls Try.prog 26 #[.agg #[.int .u16 v, .int .u16 t, .int .u8 x, .bool b], .func (.func 39) #[] #[.pointer (some ⟨C, 0, none⟩)]] w fun e w' => e = .returned (.tuple #[.agg #[.int .u16 (st v n), .int .u16 t, .int .u8 x, .bool b], .int .i64 0]) ∧ Below w.heap.size w w' := by
  go_enter Try.func26, Try.ntmps26
  go_wp2_with fail
  refine (check_ok v t x b _ v1 t1 x1).mono ?_
  rintro e w1 ⟨rfl, z1⟩
  have hB := Lib.hid (old_in (heap_alloc2_old _ _ _) z1)
  have hR := Lib.hid (new_at z1 (World.size_alloc _ _))
  have hG := Lib.hid (below_call (((Below.refl w.heap.size w).alloc (Nat.le_refl _) _).alloc (by rw [World.size_alloc]; exact Nat.le_succ _) _) z1)
  have hlt := lt_of_row hC
  have hC1 := Lib.hid (show Bit w1 C n from (hG.out.block C hlt).trans hC)
  clear z1
  have kB := cells_of hB.out
  go_wp2_with fail
  refine (cl_step w.heap.size C v t x (st v n) b n w1 hB.out hC1.out v0 v1 rfl).mono ?_
  rintro e w2 ⟨rfl, hD⟩
  clear kB
  have kB := cells_of hD.row
  have hR2 := Lib.hid ((hD.chg.kept (w.heap.size + 1) (by omega)).trans hR.out)
  have hG2 := Lib.hid (hG.out.trans (hD.chg.below _ (Nat.le_refl _)))
  clear hD
  go_wp2_with (refine wpList_store_row rfl 24 (.tmp 4) (.tmp 15) rfl (w.heap.size + 1) _ rfl rfl 24 _ hR2.out (by kernel_rfl) rfl (one4 _ _ _ _) ?_)
  have kR := cells_of (setRow_heap _ _ _ #[.int .u16 (st v n), .int .u16 t, .int .u8 x, .bool b] _ _ hR2.out)
  exact bodyPost_ret (by simp [results, Try.results26, go_sem, kR]) rfl ⟨rfl, Below.setRow hG2.out (Nat.le_succ _) _⟩
set_option maxHeartbeats 1000000 in
theorem step_any (v t x : Int) (b : Bool) (n : Bool) (w : World) (v0 : 0 ≤ v) (v1 : v ≤ 32767) (t0 : 0 ≤ t) (t1 : t ≤ 32767) (x1 : x ≤ 7) :
    Calls Try.prog 36 #[.agg #[.int .u16 v, .int .u16 t, .int .u8 x, .bool b], .bool n] w fun e w' => e = .returned (.tuple #[.agg #[.int .u16 (st v n), .int .u16 t, .int .u8 x, .bool b], .int .i64 0]) ∧ Below w.heap.size w w' := by
  go_enter Try.func36, Try.ntmps36
  go_wp2_with fail
  have hC : (((w.alloc (.cells #[.int .u16 v, .int .u16 t, .int .u8 x, .bool b] 24)).alloc (.cells #[.bool n] 4)).alloc (.cells #[.int .u16 0, .int .u16 0, .int .u8 0, .bool false] 24)).heap[w.heap.size + 1]? = some (.cells #[.bool n] 4 (0, 0)) := old_new (by have q := heap_alloc_new (w.alloc (.cells #[.int .u16 v, .int .u16 t, .int .u8 x, .bool b] 24)) (.cells #[.bool n] 4); rwa [World.size_alloc] at q) _
  refine (change_step (w.heap.size + 1) v t x b n _ v0 v1 t0 t1 x1 hC).mono ?_
  rintro e w1 ⟨rfl, z1⟩
  have hR := Lib.hid (new_at (cs := #[.int .u16 0, .int .u16 0, .int .u8 0, .bool false]) (t := 24) (n := w.heap.size + 1 + 1) z1 (by rw [World.size_alloc, World.size_alloc]))
  have hG := Lib.hid (below_call ((((Below.refl w.heap.size w).alloc (Nat.le_refl _) _).alloc (by rw [World.size_alloc]; exact Nat.le_succ _) _).alloc (by rw [World.size_alloc, World.size_alloc]; omega) _) z1)
  clear z1 hC
  go_wp2_with (refine wpList_store_row rfl 24 (.tmp 4) (.tmp 9) rfl (w.heap.size + 1 + 1) _ rfl rfl 24 _ hR.out (by kernel_rfl) rfl (one4 _ _ _ _) ?_)
  have kR := cells_of (setRow_heap _ _ _ #[.int .u16 (st v n), .int .u16 t, .int .u8 x, .bool b] _ _ hR.out)
  exact bodyPost_ret (by simp [results, Try.results36, go_sem, kR]) rfl ⟨rfl, Below.setRow hG.out (by omega) _⟩
end Go.Proofs.Ytleggfpcgdpoaaa
