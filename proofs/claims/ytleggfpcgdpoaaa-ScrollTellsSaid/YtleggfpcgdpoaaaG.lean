/- The contracts of the reference's May, Apart, Whole, Tile, Tint. -/
import Derived.Test.YtleggfpcgdpoaaaE
namespace Go.Proofs.Ytleggfpcgdpoaaa
open Go.ChangeShapes Go.WideShapes Go.ChangeAt Go.RowKit
set_option linter.unusedVariables false
theorem may_ok (v t x : Int) (b : Bool) (w : World) (v1 : v ≤ 32767) (t1 : t ≤ 32767) (x1 : x ≤ 7) :
    Calls Try.prog 19 #[.agg #[.int .u16 v, .int .u16 t, .int .u8 x, .bool b]] w fun e w' => e = .returned (.bool true) ∧ Below w.heap.size w w' := by
  go_enter Try.func19, Try.ntmps19
  go_wp2
  go_ret
  exact ⟨by simp; omega, by go_grown⟩
theorem may_bad (v t x : Int) (b : Bool) (w : World) (h : ¬ (v ≤ 32767 ∧ t ≤ 32767 ∧ x ≤ 7)) :
    Calls Try.prog 19 #[.agg #[.int .u16 v, .int .u16 t, .int .u8 x, .bool b]] w fun e w' => e = .returned (.bool false) ∧ Below w.heap.size w w' := by
  go_enter Try.func19, Try.ntmps19
  go_wp2
  all_goals
    go_ret
    exact ⟨by first | rfl | (simp; omega), by go_grown⟩
theorem one5i (a b c d e : Int) : (#[.int .i64 a, .int .i64 b, .int .i64 c, .int .i64 d, .int .i64 e] : Array Value).all (·.oneCell') = true := by kernel_rfl
theorem apart_any (n : Int) (w : World) (n0 : 0 ≤ n) (n1 : n ≤ 32767) :
    Calls Try.prog 25 #[.int .u16 n] w fun e w' => e = .returned (.agg #[.int .i64 (n % 32), .int .i64 (n / 32 % 32), .int .i64 (n / 1024 % 2), .int .i64 (n / 2048 % 2), .int .i64 (n / 4096)]) ∧ Below w.heap.size w w' := by
  have e1 : n.tmod 32 = n % 32 := Int.tmod_eq_emod_of_nonneg n0
  have d1 : n.tdiv 32 = n / 32 := Int.tdiv_eq_ediv_of_nonneg n0
  have d2 : n.tdiv 1024 = n / 1024 := Int.tdiv_eq_ediv_of_nonneg n0
  have d3 : n.tdiv 2048 = n / 2048 := Int.tdiv_eq_ediv_of_nonneg n0
  have d4 : n.tdiv 4096 = n / 4096 := Int.tdiv_eq_ediv_of_nonneg n0
  have e2 : (n / 32).tmod 32 = n / 32 % 32 := Int.tmod_eq_emod_of_nonneg (by omega)
  have e3 : (n / 1024).tmod 2 = n / 1024 % 2 := Int.tmod_eq_emod_of_nonneg (by omega)
  have e4 : (n / 2048).tmod 2 = n / 2048 % 2 := Int.tmod_eq_emod_of_nonneg (by omega)
  go_enter Try.func25, Try.ntmps25
  go_wp2
  exact bodyPost_ret (v := .agg #[.int .i64 (n % 32), .int .i64 (n / 32 % 32), .int .i64 (n / 1024 % 2), .int .i64 (n / 2048 % 2), .int .i64 (n / 4096)]) (by simp [results, Try.results25, go_sem]) rfl ⟨rfl, by go_grown⟩
theorem whole_any (a b h k f : Int) (w : World) (s : Five a b h k f) :
    Calls Try.prog 37 #[.agg #[.int .i64 a, .int .i64 b, .int .i64 h, .int .i64 k, .int .i64 f]] w fun e w' => e = .returned (.int .u16 (pt a b h k f)) ∧ Below w.heap.size w w' := by
  obtain ⟨⟨a0, a1⟩, ⟨b0, b1⟩, ⟨h0, h1⟩, ⟨k0, k1⟩, f0, f1⟩ := s
  have hw : IntKind.u16.wrap (a + 32 * b + 1024 * h + 2048 * k + 4096 * f) = pt a b h k f := IntWalk.u16_in _ (by omega)
  go_enter Try.func37, Try.ntmps37
  go_wp2
  go_ret
  exact ⟨rfl, by go_grown⟩
end Go.Proofs.Ytleggfpcgdpoaaa
