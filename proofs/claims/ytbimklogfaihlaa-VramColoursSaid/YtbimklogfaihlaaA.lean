/- The contract of the law package's awake: it answers true. -/
import Derived.Test.YtbimklogfaihlaaW
namespace Go.Proofs.Ytbimklogfaihlaa
open Go.ChangeShapes Go.WideShapes Go.ChangeAt Go.RowKit

set_option maxHeartbeats 400000 in
theorem awake_any (w : World) : Calls Try.prog 14 #[] w fun e w' => e = .returned (.bool true) ∧ Grown w w' := by
  have e0 : sp 0 10240 = 1024 := by decide
  have e1 : sp 1 10240 = 0 := by decide
  have e2 : pl 16144 = 0 := by decide
  go_enter Try.func14, Try.ntmps14
  go_wp2_with fail
  refine (screen_ok 10240 0 _ (by omega) (by omega) (by omega) (by omega) (by omega) (by omega)).mono ?_
  rintro e w1 ⟨rfl, g1⟩
  go_wp2_with fail
  refine (screen_ok 10240 1 _ (by omega) (by omega) (by omega) (by omega) (by omega) (by omega)).mono ?_
  rintro e w2 ⟨rfl, g2⟩
  go_wp2_with fail
  refine (pal_ok 16144 _ (by omega) (by omega) (by omega)).mono ?_
  rintro e w3 ⟨rfl, rfl⟩
  go_wp2_with fail
  refine (kind_scr 16127 _ (by omega) (by omega) (by omega) (by omega)).mono ?_
  rintro e w3 ⟨rfl, rfl⟩
  go_wp2
  go_ret
  exact ⟨rfl, gtrans g1 g2⟩
end Go.Proofs.Ytbimklogfaihlaa
