/- The contracts of package vram's three functions, of the reference's three, and of the law package's awake. -/
import Derived.Test.YtbimklogfaihlaaRows
import Derived.Test.YtbimklogfaihlaaPl
import Derived.OpenShut
import Derived.Outline
import Derived.WalkSpells
import Derived.Deep.WholeRow
import Derived.Lib.Hide
namespace Go.Proofs.Ytbimklogfaihlaa
open Go.ChangeShapes Go.WideShapes Go.ChangeAt Go.RowKit

theorem kind_pat (a : Int) (w : World) (h0 : 0 ≤ a) (h1 : a ≤ 65535) (h : a % 16384 < 8192) :
    Calls Try.prog 12 #[.int .u16 a] w fun e w' => e = .returned (.int .i64 0) ∧ w = w' := by
  have hb := and16383 a h0 h1
  go_enter Try.func12, Try.ntmps12
  go_wp2
  go_ret
  exact ⟨rfl, rfl⟩
theorem kind_scr (a : Int) (w : World) (h0 : 0 ≤ a) (h1 : a ≤ 65535) (h : 8192 ≤ a % 16384) (h' : a % 16384 < 16128) :
    Calls Try.prog 12 #[.int .u16 a] w fun e w' => e = .returned (.int .i64 1) ∧ w = w' := by
  have hb := and16383 a h0 h1
  go_enter Try.func12, Try.ntmps12
  go_wp2
  go_ret
  exact ⟨rfl, rfl⟩
theorem kind_pal (a : Int) (w : World) (h0 : 0 ≤ a) (h1 : a ≤ 65535) (h : 16128 ≤ a % 16384) :
    Calls Try.prog 12 #[.int .u16 a] w fun e w' => e = .returned (.int .i64 2) ∧ w = w' := by
  have hb := and16383 a h0 h1
  go_enter Try.func12, Try.ntmps12
  go_wp2
  go_ret
  exact ⟨rfl, rfl⟩

theorem rkind_pat (a : Int) (w : World) (h0 : 0 ≤ a) (h1 : a ≤ 65535) (h : a % 16384 < 8192) :
    Calls Try.prog 13 #[.int .u16 a] w fun e w' => e = .returned (.int .i64 0) ∧ w = w' := by
  go_enter Try.func13, Try.ntmps13
  go_wp2
  go_ret
  exact ⟨rfl, rfl⟩
theorem rkind_scr (a : Int) (w : World) (h0 : 0 ≤ a) (h1 : a ≤ 65535) (h : 8192 ≤ a % 16384) (h' : a % 16384 < 16128) :
    Calls Try.prog 13 #[.int .u16 a] w fun e w' => e = .returned (.int .i64 1) ∧ w = w' := by
  go_enter Try.func13, Try.ntmps13
  go_wp2
  go_ret
  exact ⟨rfl, rfl⟩
theorem rkind_pal (a : Int) (w : World) (h0 : 0 ≤ a) (h1 : a ≤ 65535) (h : 16128 ≤ a % 16384) :
    Calls Try.prog 13 #[.int .u16 a] w fun e w' => e = .returned (.int .i64 2) ∧ w = w' := by
  go_enter Try.func13, Try.ntmps13
  go_wp2
  go_ret
  exact ⟨rfl, rfl⟩


set_option maxHeartbeats 400000 in
theorem screen_ok (a l : Int) (w : World) (h0 : 0 ≤ a) (h1 : a ≤ 65535) (hl0 : 0 ≤ l) (hl1 : l ≤ 4) (h : 8192 ≤ a % 16384) (h' : a % 16384 < 16128) :
    Calls Try.prog 8 #[.int .u16 a, .int .i64 l] w fun e w' => e = .returned (.tuple #[.int .i64 (sp l a), .int .i64 0]) ∧ Grown w w' := by
  unfold sp
  have hm := and1023 a h0 h1
  have hq : bits .and .u16 (a / 1024) 3 = a / 1024 % 4 := and3 _ (by omega) (by omega)
  have hc := cellT l (a / 1024 % 4) hl0 hl1 (by omega) (by omega)
  obtain ⟨hb0, hb1⟩ := tb_bd l (a / 1024 % 4) (by omega) (by omega)
  have ho := or1024' (tb l (a / 1024 % 4)) (a % 1024) hb0 hb1 (by omega) (by omega)
  unfold cellsT at hc
  go_enter Try.func8, Try.ntmps8
  go_wp2_with (first | (go_at_call 12; refine (kind_scr _ _ h0 h1 h h').mono ?_; rintro e w' ⟨rfl, rfl⟩) | (refine wpList_store_row rfl 38 (.tmp 6) (.tmp 23) rfl w.heap.size _ rfl rfl 38 _ (heap_alloc_new _ _) (by kernel_rfl) rfl (by kernel_rfl) ?_; rw [World.setRow_alloc_new]))
  go_ret2
  exact ⟨rfl, (Grown.refl _).alloc _ _⟩

theorem screen_pat (a l : Int) (w : World) (h0 : 0 ≤ a) (h1 : a ≤ 65535) (h : a % 16384 < 8192) :
    Calls Try.prog 8 #[.int .u16 a, .int .i64 l] w fun e w' => e = .returned (.tuple #[.int .i64 0, .int .i64 1]) ∧ Grown w w' := by
  go_enter Try.func8, Try.ntmps8
  go_wp2_with (go_at_call 12; refine (kind_pat _ _ h0 h1 h).mono ?_; rintro e w' ⟨rfl, rfl⟩)
  go_ret2
  exact ⟨rfl, Grown.refl _⟩
theorem screen_pal (a l : Int) (w : World) (h0 : 0 ≤ a) (h1 : a ≤ 65535) (h : 16128 ≤ a % 16384) :
    Calls Try.prog 8 #[.int .u16 a, .int .i64 l] w fun e w' => e = .returned (.tuple #[.int .i64 0, .int .i64 1]) ∧ Grown w w' := by
  go_enter Try.func8, Try.ntmps8
  go_wp2_with (go_at_call 12; refine (kind_pal _ _ h0 h1 h).mono ?_; rintro e w' ⟨rfl, rfl⟩)
  go_ret2
  exact ⟨rfl, Grown.refl _⟩
theorem screen_out (a l : Int) (w : World) (h0 : 0 ≤ a) (h1 : a ≤ 65535) (h : 8192 ≤ a % 16384) (h' : a % 16384 < 16128) (hl : l < 0 ∨ 4 < l) :
    Calls Try.prog 8 #[.int .u16 a, .int .i64 l] w fun e w' => e = .returned (.tuple #[.int .i64 0, .int .i64 1]) ∧ Grown w w' := by
  rcases hl with hl | hl
  all_goals
    go_enter Try.func8, Try.ntmps8
    go_wp2_with (go_at_call 12; refine (kind_scr _ _ h0 h1 h h').mono ?_; rintro e w' ⟨rfl, rfl⟩)
    go_ret2
    exact ⟨rfl, Grown.refl _⟩

theorem pal_pat (a : Int) (w : World) (h0 : 0 ≤ a) (h1 : a ≤ 65535) (h : a % 16384 < 8192) :
    Calls Try.prog 10 #[.int .u16 a] w fun e w' => e = .returned (.tuple #[.int .i64 0, .int .i64 1]) ∧ w = w' := by
  go_enter Try.func10, Try.ntmps10
  go_wp2_with (go_at_call 12; refine (kind_pat _ _ h0 h1 h).mono ?_; rintro e w' ⟨rfl, rfl⟩)
  go_ret2
  exact ⟨rfl, rfl⟩
theorem pal_scr (a : Int) (w : World) (h0 : 0 ≤ a) (h1 : a ≤ 65535) (h : 8192 ≤ a % 16384) (h' : a % 16384 < 16128) :
    Calls Try.prog 10 #[.int .u16 a] w fun e w' => e = .returned (.tuple #[.int .i64 0, .int .i64 1]) ∧ w = w' := by
  go_enter Try.func10, Try.ntmps10
  go_wp2_with (go_at_call 12; refine (kind_scr _ _ h0 h1 h h').mono ?_; rintro e w' ⟨rfl, rfl⟩)
  go_ret2
  exact ⟨rfl, rfl⟩
theorem pal_ok (a : Int) (w : World) (h0 : 0 ≤ a) (h1 : a ≤ 65535) (h : 16128 ≤ a % 16384) :
    Calls Try.prog 10 #[.int .u16 a] w fun e w' => e = .returned (.tuple #[.int .i64 (pl a), .int .i64 0]) ∧ w = w' := by
  have hb := and31 a h0 h1
  have hx := and19i (a % 32) (by omega) (by omega)
  by_cases hp : a % 32 = 16 ∨ a % 32 = 20 ∨ a % 32 = 24 ∨ a % 32 = 28
  · rw [show pl a = a % 32 - 16 from if_pos hp]
    rw [decide_eq_true hp] at hx
    have hp2 : 16 ≤ a % 32 := by omega
    clear hp
    go_enter Try.func10, Try.ntmps10
    go_wp2_with (go_at_call 12; refine (kind_pal _ _ h0 h1 h).mono ?_; rintro e w' ⟨rfl, rfl⟩)
    go_ret2
    exact ⟨rfl, rfl⟩
  · rw [show pl a = a % 32 from if_neg hp]
    rw [decide_eq_false hp] at hx
    clear hp
    go_enter Try.func10, Try.ntmps10
    go_wp2_with (go_at_call 12; refine (kind_pal _ _ h0 h1 h).mono ?_; rintro e w' ⟨rfl, rfl⟩)
    go_ret2
    exact ⟨rfl, rfl⟩

theorem rpal_pat (a : Int) (w : World) (h0 : 0 ≤ a) (h1 : a ≤ 65535) (h : a % 16384 < 8192) :
    Calls Try.prog 11 #[.int .u16 a] w fun e w' => e = .returned (.tuple #[.int .i64 0, .int .i64 1]) ∧ w = w' := by
  go_enter Try.func11, Try.ntmps11
  go_wp2_with (go_at_call 13; refine (rkind_pat _ _ h0 h1 h).mono ?_; rintro e w' ⟨rfl, rfl⟩)
  go_ret2
  exact ⟨rfl, rfl⟩
theorem rpal_scr (a : Int) (w : World) (h0 : 0 ≤ a) (h1 : a ≤ 65535) (h : 8192 ≤ a % 16384) (h' : a % 16384 < 16128) :
    Calls Try.prog 11 #[.int .u16 a] w fun e w' => e = .returned (.tuple #[.int .i64 0, .int .i64 1]) ∧ w = w' := by
  go_enter Try.func11, Try.ntmps11
  go_wp2_with (go_at_call 13; refine (rkind_scr _ _ h0 h1 h h').mono ?_; rintro e w' ⟨rfl, rfl⟩)
  go_ret2
  exact ⟨rfl, rfl⟩
theorem rpal_ok (a : Int) (w : World) (h0 : 0 ≤ a) (h1 : a ≤ 65535) (h : 16128 ≤ a % 16384) :
    Calls Try.prog 11 #[.int .u16 a] w fun e w' => e = .returned (.tuple #[.int .i64 (pl a), .int .i64 0]) ∧ w = w' := by
  by_cases hp : a % 32 = 16 ∨ a % 32 = 20 ∨ a % 32 = 24 ∨ a % 32 = 28
  · have Hp := Lib.hid (show pl a = a % 32 - 16 from if_pos hp)
    rw [Hp.out]
    rcases hp with hp | hp | hp | hp
    all_goals
      have hp1 := Int.le_of_eq hp
      have hp2 := Int.le_of_eq hp.symm
      go_enter Try.func11, Try.ntmps11
      go_wp2_with (go_at_call 13; refine (rkind_pal _ _ h0 h1 h).mono ?_; rintro e w' ⟨rfl, rfl⟩)
      go_ret2
      exact ⟨ret2 (by omega), rfl⟩
  · rw [show pl a = a % 32 from if_neg hp]
    have x1 : (a % 32 == 16) = false := beq_eq_false_iff_ne.2 (by omega)
    have x2 : (a % 32 == 20) = false := beq_eq_false_iff_ne.2 (by omega)
    have x3 : (a % 32 == 24) = false := beq_eq_false_iff_ne.2 (by omega)
    have x4 : (a % 32 == 28) = false := beq_eq_false_iff_ne.2 (by omega)
    clear hp
    go_enter Try.func11, Try.ntmps11
    go_wp2_with (go_at_call 13; refine (rkind_pal _ _ h0 h1 h).mono ?_; rintro e w' ⟨rfl, rfl⟩)
    go_ret2
    exact ⟨rfl, rfl⟩

theorem rscreen_pat (a l : Int) (w : World) (h0 : 0 ≤ a) (h1 : a ≤ 65535) (h : a % 16384 < 8192) :
    Calls Try.prog 9 #[.int .u16 a, .int .i64 l] w fun e w' => e = .returned (.tuple #[.int .i64 0, .int .i64 1]) ∧ w = w' := by
  go_enter Try.func9, Try.ntmps9
  go_wp2_with (go_at_call 13; refine (rkind_pat _ _ h0 h1 h).mono ?_; rintro e w' ⟨rfl, rfl⟩)
  go_ret2
  exact ⟨rfl, rfl⟩
theorem rscreen_pal (a l : Int) (w : World) (h0 : 0 ≤ a) (h1 : a ≤ 65535) (h : 16128 ≤ a % 16384) :
    Calls Try.prog 9 #[.int .u16 a, .int .i64 l] w fun e w' => e = .returned (.tuple #[.int .i64 0, .int .i64 1]) ∧ w = w' := by
  go_enter Try.func9, Try.ntmps9
  go_wp2_with (go_at_call 13; refine (rkind_pal _ _ h0 h1 h).mono ?_; rintro e w' ⟨rfl, rfl⟩)
  go_ret2
  exact ⟨rfl, rfl⟩
theorem rscreen_out (a l : Int) (w : World) (h0 : 0 ≤ a) (h1 : a ≤ 65535) (h : 8192 ≤ a % 16384) (h' : a % 16384 < 16128) (hl : l < 0 ∨ 4 < l) :
    Calls Try.prog 9 #[.int .u16 a, .int .i64 l] w fun e w' => e = .returned (.tuple #[.int .i64 0, .int .i64 1]) ∧ w = w' := by
  rcases hl with hl | hl
  all_goals
    go_enter Try.func9, Try.ntmps9
    go_wp2_with (go_at_call 13; refine (rkind_scr _ _ h0 h1 h h').mono ?_; rintro e w' ⟨rfl, rfl⟩)
    go_ret2
    exact ⟨rfl, rfl⟩
theorem rscreen_ok (a l : Int) (w : World) (h0 : 0 ≤ a) (h1 : a ≤ 65535) (hl0 : 0 ≤ l) (hl1 : l ≤ 4) (h : 8192 ≤ a % 16384) (h' : a % 16384 < 16128) :
    Calls Try.prog 9 #[.int .u16 a, .int .i64 l] w fun e w' => e = .returned (.tuple #[.int .i64 (sp l a), .int .i64 0]) ∧ w = w' := by
  have e : l = 0 ∨ l = 1 ∨ l = 2 ∨ l = 3 ∨ l = 4 := by omega
  clear hl0 hl1
  rcases e with rfl | rfl | rfl | rfl | rfl
  all_goals
    go_enter Try.func9, Try.ntmps9
    go_wp2_with (go_at_call 13; refine (rkind_scr _ _ h0 h1 h h').mono ?_; rintro e w' ⟨rfl, rfl⟩)
    go_ret2
    exact ⟨ret2 (by simp [sp, tb] <;> omega), rfl⟩
end Go.Proofs.Ytbimklogfaihlaa
