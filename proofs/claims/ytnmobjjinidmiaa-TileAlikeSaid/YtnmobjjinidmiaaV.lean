/- The contract of package tile's Alike. -/
import Derived.Test.YtnmobjjinidmiaaU
import Derived.Test.YtnmobjjinidmiaaS
namespace Go.Proofs.Ytnmobjjinidmiaa
open Go.ChangeShapes Go.WideShapes Go.ChangeAt Go.RowKit
theorem heap_dr (x : World) : x.drew.heap = x.heap := rfl
set_option maxHeartbeats 4000000 in
theorem alike_core (a b c d e a' b' c' d' e' x0 x1 x2 x3 y1 y2 y3 z : Int) (w : World) (f0 : bits .xor .u16 a a' = x0) (f1 : bits .xor .u16 b b' = x1) (f2 : bits .xor .u16 c c' = x2) (f3 : bits .xor .u16 d d' = x3)
    (g0 : bits .or .u16 0 x0 = x0) (g1 : bits .or .u16 x0 x1 = y1) (g2 : bits .or .u16 y1 x2 = y2) (g3 : bits .or .u16 y2 x3 = y3) (hz : bits .andNot .u16 y3 e = z) (q : Bool) (hq : q = (decide (e = e') && decide (z = 0))) :
    Calls Try.prog 15 #[.agg #[.int .u16 a, .int .u16 b, .int .u16 c, .int .u16 d, .int .u16 e], .agg #[.int .u16 a', .int .u16 b', .int .u16 c', .int .u16 d', .int .u16 e']] w fun r w' => r = .returned (.bool q) ∧ Below w.heap.size w w' := by
  go_enter Try.func15, Try.ntmps15
  go_wp2_with (go_at_call 21; refine (all_any _ _).mono ?_; rintro e w' ⟨rfl, rfl⟩)
  generalize hW : World.drew _ = W
  have k0 : ∀ j, W.cell? ⟨w.heap.size, j, none⟩ = (#[.int .u16 a, .int .u16 b, .int .u16 c, .int .u16 d, .int .u16 e] : Array Value)[j]? := cells_of (t := 24) (by
    rw [← hW]
    rw [heap_dr, heap_dr]
    iterate 5 (rw [heap_alloc_old _ _ (by simp only [World.size_alloc]; omega)])
    exact row_at0 _ _ _ rfl)
  have k1 : ∀ j, W.cell? ⟨w.heap.size + 1, j, none⟩ = (#[.int .u16 a', .int .u16 b', .int .u16 c', .int .u16 d', .int .u16 e'] : Array Value)[j]? := cells_of (t := 24) (by
    rw [← hW]
    rw [heap_dr, heap_dr]
    iterate 4 (rw [heap_alloc_old _ _ (by simp only [World.size_alloc]; omega)])
    exact row_at0 _ _ _ (by simp only [World.size_alloc]))
  have k6 : ∀ j, W.cell? ⟨w.heap.size + 1 + 1 + 1 + 1, j, none⟩ = (#[.pointer (some ⟨w.heap.size, 0, none⟩), .pointer (some ⟨w.heap.size, 1, none⟩), .pointer (some ⟨w.heap.size, 2, none⟩), .pointer (some ⟨w.heap.size, 3, none⟩), .pointer (some ⟨w.heap.size, 4, none⟩)] : Array Value)[j]? := cells_of (t := 44) (by
    rw [← hW]
    rw [heap_dr, heap_dr]
    iterate 1 (rw [heap_alloc_old _ _ (by simp only [World.size_alloc]; omega)])
    exact row_at0 _ _ _ (by simp only [World.size_alloc]))
  have k7 : ∀ j, W.cell? ⟨w.heap.size + 1 + 1 + 1 + 1 + 1, j, none⟩ = (#[.pointer (some ⟨w.heap.size + 1, 0, none⟩), .pointer (some ⟨w.heap.size + 1, 1, none⟩), .pointer (some ⟨w.heap.size + 1, 2, none⟩), .pointer (some ⟨w.heap.size + 1, 3, none⟩), .pointer (some ⟨w.heap.size + 1, 4, none⟩)] : Array Value)[j]? := cells_of (t := 44) (by
    rw [← hW]
    rw [heap_dr, heap_dr]
    exact row_at0 _ _ _ (by simp only [World.size_alloc]))
  have hb : Below w.heap.size w W := by rw [← hW]; go_grown
  have HB := Lib.hid hb
  clear hW hb
  by_cases he : e = e'
  · subst he
    obtain rfl : q = (z == 0) := by rw [hq]; simp; rfl
    clear hq
    refine wp_loop_rounds 5 ?_
    iterate 4
      rw [rounds_succ]
      go_wp2_with fail
      go_quiet (fail)
      go_wp2_with fail
    rw [rounds_succ]
    go_wp2_with fail
    go_ret
    exact ⟨rfl, below_dn HB.out _⟩
  · obtain rfl : q = false := by rw [hq]; simp [he]
    clear hq
    refine wp_loop_rounds 5 ?_
    iterate 4
      rw [rounds_succ]
      go_wp2_with fail
      go_quiet (fail)
      go_wp2_with fail
    rw [rounds_succ]
    go_wp2_with fail
    go_ret
    exact ⟨rfl, below_dn HB.out _⟩
theorem alike_any (a b c d e a' b' c' d' e' : Int) (w : World) (a0 : 0 ≤ a) (a1 : a ≤ 65535) (b0 : 0 ≤ b) (b1 : b ≤ 65535) (c0 : 0 ≤ c) (c1 : c ≤ 65535) (d0 : 0 ≤ d) (d1 : d ≤ 65535) (e0 : 0 ≤ e) (e1 : e ≤ 65535)
    (a0' : 0 ≤ a') (a1' : a' ≤ 65535) (b0' : 0 ≤ b') (b1' : b' ≤ 65535) (c0' : 0 ≤ c') (c1' : c' ≤ 65535) (d0' : 0 ≤ d') (d1' : d' ≤ 65535) (e0' : 0 ≤ e') (e1' : e' ≤ 65535) :
    Calls Try.prog 15 #[.agg #[.int .u16 a, .int .u16 b, .int .u16 c, .int .u16 d, .int .u16 e], .agg #[.int .u16 a', .int .u16 b', .int .u16 c', .int .u16 d', .int .u16 e']] w fun r w' => r = .returned (.bool (alk a b c d e a' b' c' d' e')) ∧ Below w.heap.size w w' := by
  obtain ⟨x0, x1, x2, x3, y1, y2, y3, z, f0, f1, f2, f3, g0, g1, g2, g3, hz, _, _, _, _, _, _, _, hal⟩ := int_alike a b c d e a' b' c' d' e' a0 a1 b0 b1 c0 c1 d0 d1 e0 e1 a0' a1' b0' b1' c0' c1' d0' d1' e0' e1'
  exact alike_core a b c d e a' b' c' d' e' x0 x1 x2 x3 y1 y2 y3 z w f0 f1 f2 f3 g0 g1 g2 g3 hz _ hal
end Go.Proofs.Ytnmobjjinidmiaa
