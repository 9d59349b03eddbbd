/- The contracts of package opcode's small functions: crosses, use, cycles. -/
import Derived.Test.YtbekiknbjpdchaaRows
import Derived.Test.YtbekiknbjpdchaaShelf
import Derived.OpenShut
import Derived.Below
import Derived.Outline
import Derived.RegionTactic
import Derived.ChangeAlike
import Derived.BigRegion
import Derived.BigQuiet
import Derived.WalkSpells
import Derived.Handy
import Derived.Lib.Hide
import Derived.Deep.WholeRow
namespace Go.Proofs.Ytbekiknbjpdchaa
open Go.ChangeShapes Go.WideShapes Go.ChangeAt Go.RowKit
set_option linter.unusedVariables false
/-- may a page be crossed in a mode? -/
def crs (m : Int) : Bool := decide (m = 7) || decide (m = 8) || decide (m = 10)
theorem crosses_any (m : Int) (w : World) : Calls Try.prog 18 #[.int .i64 m] w fun e w' => e = .returned (.bool (crs m)) ∧ w' = w := by
  unfold crs
  by_cases h7 : m = 7
  · subst h7
    go_enter Try.func18, Try.ntmps18
    go_wp2
    go_ret
    exact ⟨rfl, rfl⟩
  · by_cases h8 : m = 8
    · subst h8
      go_enter Try.func18, Try.ntmps18
      go_wp2
      go_ret
      exact ⟨rfl, rfl⟩
    · by_cases h10 : m = 10
      · subst h10
        go_enter Try.func18, Try.ntmps18
        go_wp2
        go_ret
        exact ⟨rfl, rfl⟩
      · have b7 : (m == 7) = false := by simp [h7]
        have b8 : (m == 8) = false := by simp [h8]
        have b10 : (m == 10) = false := by simp [h10]
        rw [decide_eq_false h7, decide_eq_false h8, decide_eq_false h10]
        go_enter Try.func18, Try.ntmps18
        go_wp2
        go_ret
        exact ⟨rfl, rfl⟩
theorem use_out (s : ByteArray) (m : Int) (w : World) (h : m < 2 ∨ 10 < m) : Calls Try.prog 16 #[.string s, .int .i64 m] w fun e w' => e = .returned (.int .i64 0) ∧ w' = w := by
  rcases h with h | h
  all_goals
    go_enter Try.func16, Try.ntmps16
    go_wp2
    go_ret
    exact ⟨rfl, rfl⟩
/-- what 'use' looks into: the names of those that write, and of those that read and write -/
def WR : List UInt8 := [83, 84, 65, 32, 83, 84, 88, 32, 83, 84, 89, 32, 83, 65, 88, 32, 83, 72, 65, 32, 83, 72, 88, 32, 83, 72, 89, 32, 84, 65, 83]
def BO : List UInt8 := [65, 83, 76, 32, 76, 83, 82, 32, 82, 79, 76, 32, 82, 79, 82, 32, 73, 78, 67, 32, 68, 69, 67, 32, 83, 76, 79, 32, 82, 76, 65, 32, 83, 82, 69, 32, 82, 82, 65, 32, 68, 67, 80, 32, 73, 83, 67]
def us (s : List UInt8) (m : Int) : Int := if m < 2 ∨ 10 < m then 0 else if Lib.contains WR s then 2 else if Lib.contains BO s then 3 else 1
theorem use_any (s : ByteArray) (m k : Int) (w : World) (hm : w.cell? ⟨0, 0, none⟩ = some (.int .i64 k)) : Calls Try.prog 16 #[.string s, .int .i64 m] w fun e w' => e = .returned (.int .i64 (us s.data.toList m)) ∧ w' = w := by
  by_cases h : m < 2 ∨ 10 < m
  · unfold us
    rw [if_pos h]
    exact use_out s m w h
  · have h0 : 2 ≤ m := by omega
    have h1 : m ≤ 10 := by omega
    unfold us
    rw [if_neg h]
    cases c1 : Lib.contains WR s.data.toList
    · cases c2 : Lib.contains BO s.data.toList
      · go_enter Try.func16, Try.ntmps16
        go_wp2_with (go_at_call 19; refine (Try.strings_Contains _ _ k _ (by decide) hm).mono ?_; rintro e w' ⟨rfl, rfl⟩)
        all_goals first | (have c3 : Lib.contains WR s.data.toList = true := (by assumption); rw [c1] at c3; cases c3) | (have c3 : Lib.contains BO s.data.toList = true := (by assumption); rw [c2] at c3; cases c3) | skip
        go_ret
        exact ⟨rfl, rfl⟩
      · go_enter Try.func16, Try.ntmps16
        go_wp2_with (go_at_call 19; refine (Try.strings_Contains _ _ k _ (by decide) hm).mono ?_; rintro e w' ⟨rfl, rfl⟩)
        all_goals first | (have c3 : Lib.contains WR s.data.toList = true := (by assumption); rw [c1] at c3; cases c3) | (have c3 : Lib.contains BO s.data.toList = false := (by assumption); rw [c2] at c3; cases c3) | skip
        go_ret
        exact ⟨rfl, rfl⟩
    · go_enter Try.func16, Try.ntmps16
      go_wp2_with (go_at_call 19; refine (Try.strings_Contains _ _ k _ (by decide) hm).mono ?_; rintro e w' ⟨rfl, rfl⟩)
      all_goals first | (have c3 : Lib.contains WR s.data.toList = false := (by assumption); rw [c1] at c3; cases c3) | skip
      go_ret
      exact ⟨rfl, rfl⟩
end Go.Proofs.Ytbekiknbjpdchaa
