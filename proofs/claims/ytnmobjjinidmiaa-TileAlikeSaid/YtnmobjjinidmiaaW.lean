/- The contracts of package tile's functions: all, Shift, Erase, Dot, spread. -/
import Derived.Test.YtnmobjjinidmiaaRows
import Derived.Test.YtnmobjjinidmiaaPl
import Derived.OpenShut
import Derived.Below
import Derived.Outline
import Derived.RegionTactic
import Derived.ChangeAlike
import Derived.BigRegion
import Derived.WalkSpells
import Derived.Handy
namespace Go.Proofs.Ytnmobjjinidmiaa
open Go.ChangeShapes Go.WideShapes Go.ChangeAt Go.RowKit

theorem all_any (b : Nat) (w : World) :
    Calls Try.prog 21 #[.pointer (some ⟨b, 0, none⟩)] w fun e w' => e = .returned (.agg #[.pointer (some ⟨b, 0, none⟩), .pointer (some ⟨b, 1, none⟩), .pointer (some ⟨b, 2, none⟩), .pointer (some ⟨b, 3, none⟩), .pointer (some ⟨b, 4, none⟩)]) ∧ (w.alloc (.cells #[.pointer (some ⟨b, 0, none⟩), .pointer (some ⟨b, 1, none⟩), .pointer (some ⟨b, 2, none⟩), .pointer (some ⟨b, 3, none⟩), .pointer (some ⟨b, 4, none⟩)] 44)).drew = w' := by
  go_enter Try.func21, Try.ntmps21
  go_wp2_with fail
  go_region
  go_wp2
  exact bodyPost_ret (v := .agg #[.pointer (some ⟨b, 0, none⟩), .pointer (some ⟨b, 1, none⟩), .pointer (some ⟨b, 2, none⟩), .pointer (some ⟨b, 3, none⟩), .pointer (some ⟨b, 4, none⟩)]) (by simp [results, Try.results21, go_sem]) rfl ⟨rfl, rfl⟩
theorem ix0 (B : Nat) (w : World) : (Instr.index 44 (.agg #[.pointer (some ⟨B, 0, none⟩), .pointer (some ⟨B, 1, none⟩), .pointer (some ⟨B, 2, none⟩), .pointer (some ⟨B, 3, none⟩), .pointer (some ⟨B, 4, none⟩)]) (.int .i64 0)).run Try.prog w = .ok (.pointer (some ⟨B, 0, none⟩)) w := by kernel_rfl
theorem ix1 (B : Nat) (w : World) : (Instr.index 44 (.agg #[.pointer (some ⟨B, 0, none⟩), .pointer (some ⟨B, 1, none⟩), .pointer (some ⟨B, 2, none⟩), .pointer (some ⟨B, 3, none⟩), .pointer (some ⟨B, 4, none⟩)]) (.int .i64 1)).run Try.prog w = .ok (.pointer (some ⟨B, 1, none⟩)) w := by kernel_rfl
theorem ix2 (B : Nat) (w : World) : (Instr.index 44 (.agg #[.pointer (some ⟨B, 0, none⟩), .pointer (some ⟨B, 1, none⟩), .pointer (some ⟨B, 2, none⟩), .pointer (some ⟨B, 3, none⟩), .pointer (some ⟨B, 4, none⟩)]) (.int .i64 2)).run Try.prog w = .ok (.pointer (some ⟨B, 2, none⟩)) w := by kernel_rfl
theorem ix3 (B : Nat) (w : World) : (Instr.index 44 (.agg #[.pointer (some ⟨B, 0, none⟩), .pointer (some ⟨B, 1, none⟩), .pointer (some ⟨B, 2, none⟩), .pointer (some ⟨B, 3, none⟩), .pointer (some ⟨B, 4, none⟩)]) (.int .i64 3)).run Try.prog w = .ok (.pointer (some ⟨B, 3, none⟩)) w := by kernel_rfl
theorem ix4 (B : Nat) (w : World) : (Instr.index 44 (.agg #[.pointer (some ⟨B, 0, none⟩), .pointer (some ⟨B, 1, none⟩), .pointer (some ⟨B, 2, none⟩), .pointer (some ⟨B, 3, none⟩), .pointer (some ⟨B, 4, none⟩)]) (.int .i64 4)).run Try.prog w = .ok (.pointer (some ⟨B, 4, none⟩)) w := by kernel_rfl
set_option maxHeartbeats 1000000 in
theorem shift_any (a b c d e : Int) (w : World) :
    Calls Try.prog 12 #[.agg #[.int .u16 a, .int .u16 b, .int .u16 c, .int .u16 d, .int .u16 e]] w fun r w' => r = .returned (.agg #[.int .u16 (sh a), .int .u16 (sh b), .int .u16 (sh c), .int .u16 (sh d), .int .u16 (sh e)]) ∧ Below w.heap.size w w' := by
  have j0 := ix0
  have j1 := ix1
  have j2 := ix2
  have j3 := ix3
  have j4 := ix4
  have hw := sh_w
  go_enter Try.func12, Try.ntmps12
  go_wp2_with (go_at_call 21; refine (all_any _ _).mono ?_; rintro e w' ⟨rfl, rfl⟩)
  go_rounds 6
  exact bodyPost_ret (v := .agg #[.int .u16 (sh a), .int .u16 (sh b), .int .u16 (sh c), .int .u16 (sh d), .int .u16 (sh e)]) (by simp [results, Try.results12, go_sem]) rfl ⟨rfl, by go_grown⟩

theorem spread_any (b : Bool) (w : World) : Calls Try.prog 20 #[.bool b] w fun e w' => e = .returned (.int .u16 (spr b)) ∧ w = w' := by
  cases b
  all_goals
    go_enter Try.func20, Try.ntmps20
    go_wp2
    go_ret
    exact ⟨rfl, rfl⟩
theorem erase_any (a b c d e : Int) (w : World) :
    Calls Try.prog 14 #[.agg #[.int .u16 a, .int .u16 b, .int .u16 c, .int .u16 d, .int .u16 e]] w fun r w' => r = .returned (.agg #[.int .u16 a, .int .u16 b, .int .u16 c, .int .u16 d, .int .u16 0]) ∧ Below w.heap.size w w' := by
  go_enter Try.func14, Try.ntmps14
  go_wp2
  exact bodyPost_ret (v := .agg #[.int .u16 a, .int .u16 b, .int .u16 c, .int .u16 d, .int .u16 0]) (by simp [results, Try.results14, go_sem]) rfl ⟨rfl, by go_grown⟩
set_option maxHeartbeats 1000000 in
theorem dot_core (a b c d e x p0 p1 p2 p3 p4 : Int) (w : World) (x0 : 0 ≤ x) (x1 : x ≤ 255) (h0 : 0 ≤ p0 ∧ p0 ≤ 1) (h1 : 0 ≤ p1 ∧ p1 ≤ 1) (h2 : 0 ≤ p2 ∧ p2 ≤ 1) (h3 : 0 ≤ p3 ∧ p3 ≤ 1) (h4 : 0 ≤ p4 ∧ p4 ≤ 1)
    (k0 : bits .and .u16 (a / 2 ^ (15 - x % 8).toNat) 1 = p0) (k1 : bits .and .u16 (b / 2 ^ (15 - x % 8).toNat) 1 = p1) (k2 : bits .and .u16 (c / 2 ^ (15 - x % 8).toNat) 1 = p2) (k3 : bits .and .u16 (d / 2 ^ (15 - x % 8).toNat) 1 = p3) (k4 : bits .and .u16 (e / 2 ^ (15 - x % 8).toNat) 1 = p4) :
    Calls Try.prog 11 #[.agg #[.int .u16 a, .int .u16 b, .int .u16 c, .int .u16 d, .int .u16 e], .int .u8 x] w fun r w' => r = .returned (.tuple #[.int .u8 (p0 + p1 * 2 + p2 * 4 + p3 * 8), .bool (decide (15 < p0 + p1 * 2 + p2 * 4 + p3 * 8 + p4 * 16))]) ∧ Below w.heap.size w w' := by
  have j0 := ix0
  have j1 := ix1
  have j2 := ix2
  have j3 := ix3
  have j4 := ix4
  have hx := and7 x x0 x1
  obtain ⟨o1, o2, o3, o4, o5, o6⟩ := or_int p0 p1 p2 p3 p4 h0 h1 h2 h3 h4
  obtain ⟨h00, h01⟩ := h0
  obtain ⟨h10, h11⟩ := h1
  obtain ⟨h20, h21⟩ := h2
  obtain ⟨h30, h31⟩ := h3
  obtain ⟨h40, h41⟩ := h4
  go_enter Try.func11, Try.ntmps11
  go_wp2_with (go_at_call 21; refine (all_any _ _).mono ?_; rintro e w' ⟨rfl, rfl⟩)
  go_rounds 6
  go_ret2
  exact ⟨rfl, by go_grown⟩
theorem dot_any (a b c d e x : Int) (w : World) (a0 : 0 ≤ a) (a1 : a ≤ 65535) (b0 : 0 ≤ b) (b1 : b ≤ 65535) (c0 : 0 ≤ c) (c1 : c ≤ 65535) (d0 : 0 ≤ d) (d1 : d ≤ 65535) (e0 : 0 ≤ e) (e1 : e ≤ 65535) (x0 : 0 ≤ x) (x1 : x ≤ 255) :
    Calls Try.prog 11 #[.agg #[.int .u16 a, .int .u16 b, .int .u16 c, .int .u16 d, .int .u16 e], .int .u8 x] w fun r w' => r = .returned (.tuple #[.int .u8 (dv a b c d x), .bool (ds e x)]) ∧ Below w.heap.size w w' := by
  have h := dot_core a b c d e x (bt a x) (bt b x) (bt c x) (bt d x) (bt e x) w x0 x1 (bt_bd a x) (bt_bd b x) (bt_bd c x) (bt_bd d x) (bt_bd e x)
    (bt_w a x a0 a1) (bt_w b x b0 b1) (bt_w c x c0 c1) (bt_w d x d0 d1) (bt_w e x e0 e1)
  refine h.mono ?_
  rintro r w' ⟨rfl, hg⟩
  refine ⟨?_, hg⟩
  have e2 : decide (15 < bt a x + bt b x * 2 + bt c x * 4 + bt d x * 8 + bt e x * 16) = ds e x := by
    have := bt_bd a x
    have := bt_bd b x
    have := bt_bd c x
    have := bt_bd d x
    have := bt_bd e x
    unfold ds
    rw [Bool.eq_iff_iff, decide_eq_true_iff, beq_iff_eq]
    omega
  rw [e2]
  rfl
end Go.Proofs.Ytnmobjjinidmiaa
