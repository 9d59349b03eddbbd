/- The contract of package opcode's Long, mode by mode. -/
import Derived.Test.YtbekiknbjpdchaaA
namespace Go.Proofs.Ytbekiknbjpdchaa
open Go.ChangeShapes Go.WideShapes Go.ChangeAt Go.RowKit
set_option linter.unusedVariables false
/-- how long -/
def lg (m : Int) : Int := if m = 0 ∨ m = 1 ∨ (15 ≤ m ∧ m ≤ 20) then 1 else if (6 ≤ m ∧ m ≤ 8) ∨ (12 ≤ m ∧ m ≤ 14) then 3 else if 2 ≤ m ∧ m ≤ 11 then 2 else 0
theorem long_any (s : ByteArray) (m u c : Int) (x g : Bool) (w : World) (h : m = 0 ∨ m = 1 ∨ m = 2 ∨ m = 3 ∨ m = 4 ∨ m = 5 ∨ m = 6 ∨ m = 7 ∨ m = 8 ∨ m = 9 ∨ m = 10 ∨ m = 11 ∨ m = 12 ∨ m = 13 ∨ m = 14 ∨ m = 15 ∨ m = 16 ∨ m = 17 ∨ m = 18 ∨ m = 19 ∨ m = 20) :
    Calls Try.prog 11 #[.agg #[.string s, .int .i64 m, .int .i64 u, .int .i64 c, .bool x, .bool g]] w fun e w' => e = .returned (.int .i64 (lg m)) ∧ Below w.heap.size w w' := by
  rcases h with rfl | rfl | rfl | rfl | rfl | rfl | rfl | rfl | rfl | rfl | rfl | rfl | rfl | rfl | rfl | rfl | rfl | rfl | rfl | rfl | rfl
  all_goals
    go_enter Try.func11, Try.ntmps11
    go_wp2
    go_ret
    exact ⟨rfl, by go_grown⟩
end Go.Proofs.Ytbekiknbjpdchaa
