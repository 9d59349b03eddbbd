/- The contract of the law package's awake: it answers true. -/
import Derived.Test.YtnmobjjinidmiaaL
import Derived.Test.YtnmobjjinidmiaaB
namespace Go.Proofs.Ytnmobjjinidmiaa
open Go.ChangeShapes Go.WideShapes Go.ChangeAt Go.RowKit
theorem bcell {w w' : World} (h : Below w.heap.size w w') : (∀ b o, b < w.heap.size → w'.cell? ⟨b, o, none⟩ = w.cell? ⟨b, o, none⟩) ∧ (∀ b o, b < w.heap.size → w'.frozen? ⟨b, o, none⟩ = w.frozen? ⟨b, o, none⟩) :=
  ⟨fun b o hb => h.cell (p := ⟨b, o, none⟩) hb, fun b o hb => h.frozen (p := ⟨b, o, none⟩) hb⟩
theorem aw_load1 (w : World) : Calls Try.prog 10 #[.agg #[.int .u16 0, .int .u16 0, .int .u16 0, .int .u16 0, .int .u16 0], .agg #[.int .u8 128, .bool false], .agg #[.int .u8 0, .bool false], .int .u8 2, .bool false] w fun r w' =>
    r = .returned (.agg #[.int .u16 128, .int .u16 0, .int .u16 0, .int .u16 255, .int .u16 0]) ∧ Below w.heap.size w w' :=
  (load_any 0 0 0 0 0 128 0 2 false false false w (by omega) (by omega) (by omega) (by omega) (by omega) (by omega) (by omega) (by omega) (by omega) (by omega) (by omega) (by omega) (by omega) (by omega) (by omega) (by omega)).mono fun _ _ h => ⟨h.1.trans rfl, h.2⟩
theorem aw_load2 (w : World) : Calls Try.prog 10 #[.agg #[.int .u16 0, .int .u16 0, .int .u16 0, .int .u16 0, .int .u16 0], .agg #[.int .u8 0, .bool true], .agg #[.int .u8 0, .bool false], .int .u8 0, .bool false] w fun r w' =>
    r = .returned (.agg #[.int .u16 0, .int .u16 0, .int .u16 0, .int .u16 0, .int .u16 255]) ∧ Below w.heap.size w w' :=
  (load_any 0 0 0 0 0 0 0 0 false true false w (by omega) (by omega) (by omega) (by omega) (by omega) (by omega) (by omega) (by omega) (by omega) (by omega) (by omega) (by omega) (by omega) (by omega) (by omega) (by omega)).mono fun _ _ h => ⟨h.1.trans rfl, h.2⟩
theorem aw_shift1 (w : World) : Calls Try.prog 9 #[.agg #[.int .u16 128, .int .u16 0, .int .u16 0, .int .u16 255, .int .u16 0], .int .i64 8] w fun r w' =>
    r = .returned (.agg #[.int .u16 32768, .int .u16 0, .int .u16 0, .int .u16 65280, .int .u16 0]) ∧ Below w.heap.size w w' :=
  (shifted_any 8 (by omega) 128 0 0 255 0 w).mono fun _ _ h => ⟨h.1.trans rfl, h.2⟩
theorem aw_shift2 (w : World) : Calls Try.prog 9 #[.agg #[.int .u16 0, .int .u16 0, .int .u16 0, .int .u16 0, .int .u16 255], .int .i64 8] w fun r w' =>
    r = .returned (.agg #[.int .u16 0, .int .u16 0, .int .u16 0, .int .u16 0, .int .u16 65280]) ∧ Below w.heap.size w w' :=
  (shifted_any 8 (by omega) 0 0 0 0 255 w).mono fun _ _ h => ⟨h.1.trans rfl, h.2⟩
theorem aw_dot1 (w : World) : Calls Try.prog 11 #[.agg #[.int .u16 32768, .int .u16 0, .int .u16 0, .int .u16 65280, .int .u16 0], .int .u8 0] w fun r w' =>
    r = .returned (.tuple #[.int .u8 9, .bool false]) ∧ Below w.heap.size w w' :=
  (dot_any 32768 0 0 65280 0 0 w (by omega) (by omega) (by omega) (by omega) (by omega) (by omega) (by omega) (by omega) (by omega) (by omega) (by omega) (by omega)).mono fun _ _ h => ⟨h.1.trans rfl, h.2⟩
theorem aw_dot2 (w : World) : Calls Try.prog 11 #[.agg #[.int .u16 32768, .int .u16 0, .int .u16 0, .int .u16 65280, .int .u16 0], .int .u8 7] w fun r w' =>
    r = .returned (.tuple #[.int .u8 8, .bool false]) ∧ Below w.heap.size w w' :=
  (dot_any 32768 0 0 65280 0 7 w (by omega) (by omega) (by omega) (by omega) (by omega) (by omega) (by omega) (by omega) (by omega) (by omega) (by omega) (by omega)).mono fun _ _ h => ⟨h.1.trans rfl, h.2⟩
theorem aw_dot3 (w : World) : Calls Try.prog 11 #[.agg #[.int .u16 0, .int .u16 0, .int .u16 0, .int .u16 0, .int .u16 65280], .int .u8 3] w fun r w' =>
    r = .returned (.tuple #[.int .u8 0, .bool true]) ∧ Below w.heap.size w w' :=
  (dot_any 0 0 0 0 65280 3 w (by omega) (by omega) (by omega) (by omega) (by omega) (by omega) (by omega) (by omega) (by omega) (by omega) (by omega) (by omega)).mono fun _ _ h => ⟨h.1.trans rfl, h.2⟩
/-- a new block, behind a call -/
theorem new_in {W w' : World} {cs : Array Value} {t : TypeId} (h : Below (W.alloc (.cells cs t)).heap.size (W.alloc (.cells cs t)) w') : w'.heap[W.heap.size]? = some (.cells cs t (0, 0)) :=
  (h.block _ (by rw [World.size_alloc]; exact Nat.lt_succ_self _)).trans (heap_alloc_new _ _)
theorem cells_in {W w' : World} {cs : Array Value} {t : TypeId} (h : Below (W.alloc (.cells cs t)).heap.size (W.alloc (.cells cs t)) w') : ∀ j, w'.cell? ⟨W.heap.size, j, none⟩ = cs[j]? :=
  fun j => cell_of_row _ _ j cs t (0, 0) (new_in h)
theorem cells_of {w' : World} {g : Nat} {cs : Array Value} {t : TypeId} (h : w'.heap[g]? = some (.cells cs t (0, 0))) : ∀ j, w'.cell? ⟨g, j, none⟩ = cs[j]? := fun j => cell_of_row _ _ j cs t (0, 0) h
/-- a block of the caller's, behind a call -/
theorem old_in {W w' : World} {g : Nat} {o : Obj} (hg : W.heap[g]? = some o) (h : Below W.heap.size W w') : w'.heap[g]? = some o := by
  have hlt : g < W.heap.size := by
    rcases Nat.lt_or_ge g W.heap.size with h1 | h1
    · exact h1
    · rw [Array.getElem?_eq_none h1] at hg
      cases hg
  exact (h.block _ hlt).trans hg
theorem below_new {B : Nat} {w W w' : World} {o : Obj} (h0 : Below B w W) (hB : B ≤ W.heap.size) (h : Below (W.alloc o).heap.size (W.alloc o) w') : Below B w w' :=
  (h0.alloc hB o).trans (h.mono (by rw [World.size_alloc]; omega))
theorem below_call {w W w' : World} (h0 : Below w.heap.size w W) (h : Below W.heap.size W w') : Below w.heap.size w w' := h0.trans (h.mono h0.size)
set_option maxHeartbeats 1000000 in
theorem awake_any (w : World) : Calls Try.prog 13 #[] w fun e w' => e = .returned (.bool true) ∧ Below w.heap.size w w' := by
  go_enter Try.func13, Try.ntmps13
  go_wp2_with fail
  refine (aw_load1 _).mono ?_
  rintro r w1 ⟨rfl, b1⟩
  go_wp2_with fail
  refine (aw_shift1 _).mono ?_
  rintro r w2 ⟨rfl, b2⟩
  go_wp2_with fail
  refine (aw_dot1 _).mono ?_
  rintro r w3 ⟨rfl, b3⟩
  have r3 := Lib.hid (new_in b3)
  have g3 := Lib.hid (below_new (b1.trans (b2.mono b1.size)) (below_call b1 b2).size b3)
  clear b1 b2 b3
  go_wp2_with (first | (refine wpList_load_row rfl 24 (.tmp 1) rfl w2.heap.size rfl 24 _ (0, 0) _ r3.out Try.underlying24 rfl (by kernel_rfl) ?_) | fail)
  refine (aw_dot2 _).mono ?_
  rintro r w4 ⟨rfl, b4⟩
  go_wp2_with fail
  refine (aw_load2 _).mono ?_
  rintro r w5 ⟨rfl, b5⟩
  go_wp2_with fail
  refine (aw_shift2 _).mono ?_
  rintro r w6 ⟨rfl, b6⟩
  go_wp2_with fail
  refine (aw_dot3 _).mono ?_
  rintro r w7 ⟨rfl, b7⟩
  go_wp2
  go_ret
  exact ⟨rfl, below_call (below_call (below_call (below_call g3.out b4) b5) b6) b7⟩
end Go.Proofs.Ytnmobjjinidmiaa
