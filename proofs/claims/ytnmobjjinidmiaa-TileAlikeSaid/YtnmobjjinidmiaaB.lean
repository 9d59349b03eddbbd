/- The contract of the law package's shifted: so many times shifted. -/
import Derived.Test.YtnmobjjinidmiaaW
import Derived.Deep.WholeRow
import Derived.Lib.Hide
namespace Go.Proofs.Ytnmobjjinidmiaa
open Go.ChangeShapes Go.WideShapes Go.ChangeAt Go.RowKit
def shn : Nat → Int → Int
  | 0, a => a
  | k + 1, a => sh (shn k a)
theorem Below.setRow {B : Nat} {a w : World} (h : Below B a w) {g : Nat} (hg : B ≤ g) (cs : Array Value) : Below B a (w.setRow g cs) :=
  ⟨h.os, h.tape, h.output, by simpa using h.size, fun k hk => (setRow_other w g k cs (by omega)).trans (h.block k hk)⟩
/-- block B holds a tile -/
def Row5 (w : World) (B : Nat) (a b c d e : Int) : Prop := w.heap[B]? = some (.cells #[.int .u16 a, .int .u16 b, .int .u16 c, .int .u16 d, .int .u16 e] 24 (0, 0))
theorem one5 (a b c d e : Int) : (#[.int .u16 a, .int .u16 b, .int .u16 c, .int .u16 d, .int .u16 e] : Array Value).all (·.oneCell') = true := by kernel_rfl
structure Shf (w wr : World) (a b c d e : Int) : Prop where
  row : Row5 wr w.heap.size a b c d e
  out : Row5 wr (w.heap.size + 1) 0 0 0 0 0
  below : Below w.heap.size w wr
  size : w.heap.size + 1 < wr.heap.size
theorem Shf.start (w : World) (a b c d e : Int) : Shf w ((w.alloc (.cells #[.int .u16 a, .int .u16 b, .int .u16 c, .int .u16 d, .int .u16 e] 24)).alloc (.cells #[.int .u16 0, .int .u16 0, .int .u16 0, .int .u16 0, .int .u16 0] 24)) a b c d e :=
  ⟨heap_alloc2_old _ _ _, heap_alloc2_new _ _ _, by go_grown, by rw [World.size_alloc, World.size_alloc]; omega⟩
theorem Shf.next {w wr w1 : World} {a b c d e : Int} (h : Shf w wr a b c d e) (hb : Below wr.heap.size wr w1) (a' b' c' d' e' : Int) :
    Shf w (w1.setRow w.heap.size #[.int .u16 a', .int .u16 b', .int .u16 c', .int .u16 d', .int .u16 e']) a' b' c' d' e' := by
  have hz := h.size
  have h1 : w1.heap[w.heap.size]? = _ := (hb.block _ (by omega)).trans h.row
  have h2 : w1.heap[w.heap.size + 1]? = _ := (hb.block _ (by omega)).trans h.out
  refine ⟨setRow_heap _ _ _ _ _ _ h1, ?_, Below.setRow (h.below.trans (hb.mono (by omega))) (Nat.le_refl _) _, ?_⟩
  · unfold Row5
    rw [setRow_other _ _ _ _ (by omega)]
    exact h2
  · have := hb.size
    simp
    omega
set_option maxHeartbeats 1000000 in
theorem shifted_any (k : Nat) (hk : k ≤ 1000) (a b c d e : Int) (w : World) :
    Calls Try.prog 9 #[.agg #[.int .u16 a, .int .u16 b, .int .u16 c, .int .u16 d, .int .u16 e], .int .i64 k] w fun r w' => r = .returned (.agg #[.int .u16 (shn k a), .int .u16 (shn k b), .int .u16 (shn k c), .int .u16 (shn k d), .int .u16 (shn k e)]) ∧ Below w.heap.size w w' := by
  go_enter Try.func9, Try.ntmps9
  go_wp2_with fail
  go_loopw [5] (fun i wr => ∃ j : Nat, j ≤ k ∧ i = .int .i64 j ∧ Hid (Shf w wr (shn j a) (shn j b) (shn j c) (shn j d) (shn j e))) (fun i _ => k - (intOf i).toNat)
  case atStart => exact ⟨0, by omega, rfl, Shf.start w a b c d e⟩
  case round =>
    obtain ⟨j, hj, rfl, hs⟩ := hrel
    have hrow := Lib.hid hs.out.row
    have hout := Lib.hid hs.out.out
    by_cases hlt : j < k
    · go_wp2_with (first | (refine wpList_load_row rfl 24 (.tmp 2) rfl w.heap.size rfl 24 _ (0, 0) _ hrow.out Try.underlying24 rfl (by kernel_rfl) ?_) | (go_at_call 12; refine (shift_any _ _ _ _ _ _).mono ?_; rintro r w1 ⟨rfl, hb⟩) | (refine wpList_store_row rfl 24 (.tmp 2) (.tmp 12) rfl w.heap.size _ rfl rfl 24 _ ((hb.block _ (Nat.lt_of_succ_lt hs.out.size)).trans hrow.out) (by kernel_rfl) rfl (one5 _ _ _ _ _) ?_))
      go_roundw
      case rel => exact ⟨j + 1, by omega, by go_num, hs.out.next hb _ _ _ _ _⟩
      case measure => simp [intOf]; omega
    · obtain rfl : j = k := by omega
      go_wp2_with (first | (refine wpList_load_row rfl 24 (.tmp 2) rfl w.heap.size rfl 24 _ (0, 0) _ hrow.out Try.underlying24 rfl (by kernel_rfl) ?_) | (refine wpList_store_row rfl 24 (.tmp 4) (.tmp 13) rfl (w.heap.size + 1) _ rfl rfl 24 _ hout.out (by kernel_rfl) rfl (one5 _ _ _ _ _) ?_))
      exact bodyPost_ret (results_cell_row (p := 4) (ty := 24) rfl _ _ (w.heap.size + 1) 24 _ (0, 0) _ rfl (setRow_heap _ _ _ _ _ _ hout.out) Try.underlying24 rfl (by kernel_rfl)) rfl ⟨rfl, Below.setRow hs.out.below (Nat.le_succ _) _⟩
end Go.Proofs.Ytnmobjjinidmiaa
