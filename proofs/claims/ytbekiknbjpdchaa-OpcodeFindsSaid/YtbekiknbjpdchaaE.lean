/- The contracts of the document's package: nth, zero, two, three, Name, one. -/
import Derived.Test.YtbekiknbjpdchaaN
namespace Go.Proofs.Ytbekiknbjpdchaa
open Go.ChangeShapes Go.WideShapes Go.ChangeAt Go.RowKit
set_option linter.unusedVariables false
/-- the nth name of three letters -/
def nN (T : ByteArray) (a : Nat) : ByteArray := T.extract (4 * a) (4 * a + 3)
theorem nth_any (T : ByteArray) (hT : T.size = 32) (a : Nat) (ha : a < 8) (w : World) : Calls Try.prog 34 #[.string T, .int .i64 a] w fun e w' => e = .returned (.string (nN T a)) ∧ w' = w := by
  have e1 : IntKind.i64.wrap (4 * (a : Int)) = 4 * (a : Int) := IntWalk.i64_in _ (by omega)
  have e2 : IntKind.i64.wrap (4 * (a : Int) + 3) = 4 * (a : Int) + 3 := IntWalk.i64_in _ (by omega)
  have c1 : 0 ≤ 4 * (a : Int) + 3 := by omega
  have c2 : 4 * (a : Int) + 3 ≤ 32 := by omega
  have c3 : 0 ≤ 4 * (a : Int) := by omega
  have c4 : 4 * (a : Int) ≤ 4 * (a : Int) + 3 := by omega
  have t1 : (4 * (a : Int)).toNat = 4 * a := by omega
  have t2 : (4 * (a : Int) + 3).toNat = 4 * a + 3 := by omega
  go_enter Try.func34, Try.ntmps34
  go_wp2
  go_ret
  exact ⟨rfl, rfl⟩
def zeroN (T : Nat → ByteArray) (a b : Nat) : ByteArray := if b = 0 then nN (T 0) a else if b = 2 then nN (T 1) a else if b = 4 then nN (T 2) a else if b = 6 then nN (T 3) a else if b = 1 then nN (T 4) a else if b = 3 then nN (T 5) a else if b = 5 then nN (T 6) a else nN (T 7) a
theorem zeroN_any (a b : Nat) (ha : a < 8) (hb : b < 8) (w : World) : Calls Try.prog 31 #[.int .i64 a, .int .i64 b] w fun e w' => e = .returned (.string (zeroN (tableAt Try.f31) a b)) ∧ w' = w := by
  have h : b = 0 ∨ b = 1 ∨ b = 2 ∨ b = 3 ∨ b = 4 ∨ b = 5 ∨ b = 6 ∨ b = 7 := by omega
  clear hb
  rcases h with rfl | rfl | rfl | rfl | rfl | rfl | rfl | rfl
  · show Calls _ _ _ _ fun e w' => e = .returned (.string (nN (tableAt Try.f31 0) a)) ∧ w' = w
    generalize hT : tableAt Try.f31 0 = T
    have hs : T.size = 32 := by rw [← hT]; kernel_rfl
    have HT := Lib.hid hT
    clear hT
    go_enter Try.func31, Try.ntmps31
    go_wp2_with fail
    generalize gT : ByteArray.mk _ = T'
    obtain rfl : T' = T := by rw [← gT, ← HT.out]; kernel_rfl
    refine (nth_any T' hs a ha w).mono ?_
    rintro e w' ⟨rfl, rfl⟩
    clear HT gT
    go_wp2
    go_ret
    exact ⟨rfl, rfl⟩
  · show Calls _ _ _ _ fun e w' => e = .returned (.string (nN (tableAt Try.f31 4) a)) ∧ w' = w
    generalize hT : tableAt Try.f31 4 = T
    have hs : T.size = 32 := by rw [← hT]; kernel_rfl
    have HT := Lib.hid hT
    clear hT
    go_enter Try.func31, Try.ntmps31
    go_wp2_with fail
    generalize gT : ByteArray.mk _ = T'
    obtain rfl : T' = T := by rw [← gT, ← HT.out]; kernel_rfl
    refine (nth_any T' hs a ha w).mono ?_
    rintro e w' ⟨rfl, rfl⟩
    clear HT gT
    go_wp2
    go_ret
    exact ⟨rfl, rfl⟩
  · show Calls _ _ _ _ fun e w' => e = .returned (.string (nN (tableAt Try.f31 1) a)) ∧ w' = w
    generalize hT : tableAt Try.f31 1 = T
    have hs : T.size = 32 := by rw [← hT]; kernel_rfl
    have HT := Lib.hid hT
    clear hT
    go_enter Try.func31, Try.ntmps31
    go_wp2_with fail
    generalize gT : ByteArray.mk _ = T'
    obtain rfl : T' = T := by rw [← gT, ← HT.out]; kernel_rfl
    refine (nth_any T' hs a ha w).mono ?_
    rintro e w' ⟨rfl, rfl⟩
    clear HT gT
    go_wp2
    go_ret
    exact ⟨rfl, rfl⟩
  · show Calls _ _ _ _ fun e w' => e = .returned (.string (nN (tableAt Try.f31 5) a)) ∧ w' = w
    generalize hT : tableAt Try.f31 5 = T
    have hs : T.size = 32 := by rw [← hT]; kernel_rfl
    have HT := Lib.hid hT
    clear hT
    go_enter Try.func31, Try.ntmps31
    go_wp2_with fail
    generalize gT : ByteArray.mk _ = T'
    obtain rfl : T' = T := by rw [← gT, ← HT.out]; kernel_rfl
    refine (nth_any T' hs a ha w).mono ?_
    rintro e w' ⟨rfl, rfl⟩
    clear HT gT
    go_wp2
    go_ret
    exact ⟨rfl, rfl⟩
  · show Calls _ _ _ _ fun e w' => e = .returned (.string (nN (tableAt Try.f31 2) a)) ∧ w' = w
    generalize hT : tableAt Try.f31 2 = T
    have hs : T.size = 32 := by rw [← hT]; kernel_rfl
    have HT := Lib.hid hT
    clear hT
    go_enter Try.func31, Try.ntmps31
    go_wp2_with fail
    generalize gT : ByteArray.mk _ = T'
    obtain rfl : T' = T := by rw [← gT, ← HT.out]; kernel_rfl
    refine (nth_any T' hs a ha w).mono ?_
    rintro e w' ⟨rfl, rfl⟩
    clear HT gT
    go_wp2
    go_ret
    exact ⟨rfl, rfl⟩
  · show Calls _ _ _ _ fun e w' => e = .returned (.string (nN (tableAt Try.f31 6) a)) ∧ w' = w
    generalize hT : tableAt Try.f31 6 = T
    have hs : T.size = 32 := by rw [← hT]; kernel_rfl
    have HT := Lib.hid hT
    clear hT
    go_enter Try.func31, Try.ntmps31
    go_wp2_with fail
    generalize gT : ByteArray.mk _ = T'
    obtain rfl : T' = T := by rw [← gT, ← HT.out]; kernel_rfl
    refine (nth_any T' hs a ha w).mono ?_
    rintro e w' ⟨rfl, rfl⟩
    clear HT gT
    go_wp2
    go_ret
    exact ⟨rfl, rfl⟩
  · show Calls _ _ _ _ fun e w' => e = .returned (.string (nN (tableAt Try.f31 3) a)) ∧ w' = w
    generalize hT : tableAt Try.f31 3 = T
    have hs : T.size = 32 := by rw [← hT]; kernel_rfl
    have HT := Lib.hid hT
    clear hT
    go_enter Try.func31, Try.ntmps31
    go_wp2_with fail
    generalize gT : ByteArray.mk _ = T'
    obtain rfl : T' = T := by rw [← gT, ← HT.out]; kernel_rfl
    refine (nth_any T' hs a ha w).mono ?_
    rintro e w' ⟨rfl, rfl⟩
    clear HT gT
    go_wp2
    go_ret
    exact ⟨rfl, rfl⟩
  · show Calls _ _ _ _ fun e w' => e = .returned (.string (nN (tableAt Try.f31 7) a)) ∧ w' = w
    generalize hT : tableAt Try.f31 7 = T
    have hs : T.size = 32 := by rw [← hT]; kernel_rfl
    have HT := Lib.hid hT
    clear hT
    go_enter Try.func31, Try.ntmps31
    go_wp2_with fail
    generalize gT : ByteArray.mk _ = T'
    obtain rfl : T' = T := by rw [← gT, ← HT.out]; kernel_rfl
    refine (nth_any T' hs a ha w).mono ?_
    rintro e w' ⟨rfl, rfl⟩
    clear HT gT
    go_wp2
    go_ret
    exact ⟨rfl, rfl⟩
def twoN (T : Nat → ByteArray) (a b : Nat) : ByteArray := if b = 0 then nN (T 0) a else if b = 2 then nN (T 1) a else if b = 4 then ⟨#[74, 65, 77]⟩ else if b = 6 then nN (T 2) a else if b = 7 then nN (T 3) a else nN (T 4) a
theorem twoN_any (a b : Nat) (ha : a < 8) (hb : b < 8) (w : World) : Calls Try.prog 32 #[.int .i64 a, .int .i64 b] w fun e w' => e = .returned (.string (twoN (tableAt Try.f32) a b)) ∧ w' = w := by
  have h : b = 0 ∨ b = 1 ∨ b = 2 ∨ b = 3 ∨ b = 4 ∨ b = 5 ∨ b = 6 ∨ b = 7 := by omega
  clear hb
  rcases h with rfl | rfl | rfl | rfl | rfl | rfl | rfl | rfl
  · show Calls _ _ _ _ fun e w' => e = .returned (.string (nN (tableAt Try.f32 0) a)) ∧ w' = w
    generalize hT : tableAt Try.f32 0 = T
    have hs : T.size = 32 := by rw [← hT]; kernel_rfl
    have HT := Lib.hid hT
    clear hT
    go_enter Try.func32, Try.ntmps32
    go_wp2_with fail
    generalize gT : ByteArray.mk _ = T'
    obtain rfl : T' = T := by rw [← gT, ← HT.out]; kernel_rfl
    refine (nth_any T' hs a ha w).mono ?_
    rintro e w' ⟨rfl, rfl⟩
    clear HT gT
    go_wp2
    go_ret
    exact ⟨rfl, rfl⟩
  · show Calls _ _ _ _ fun e w' => e = .returned (.string (nN (tableAt Try.f32 4) a)) ∧ w' = w
    generalize hT : tableAt Try.f32 4 = T
    have hs : T.size = 32 := by rw [← hT]; kernel_rfl
    have HT := Lib.hid hT
    clear hT
    go_enter Try.func32, Try.ntmps32
    go_wp2_with fail
    generalize gT : ByteArray.mk _ = T'
    obtain rfl : T' = T := by rw [← gT, ← HT.out]; kernel_rfl
    refine (nth_any T' hs a ha w).mono ?_
    rintro e w' ⟨rfl, rfl⟩
    clear HT gT
    go_wp2
    go_ret
    exact ⟨rfl, rfl⟩
  · show Calls _ _ _ _ fun e w' => e = .returned (.string (nN (tableAt Try.f32 1) a)) ∧ w' = w
    generalize hT : tableAt Try.f32 1 = T
    have hs : T.size = 32 := by rw [← hT]; kernel_rfl
    have HT := Lib.hid hT
    clear hT
    go_enter Try.func32, Try.ntmps32
    go_wp2_with fail
    generalize gT : ByteArray.mk _ = T'
    obtain rfl : T' = T := by rw [← gT, ← HT.out]; kernel_rfl
    refine (nth_any T' hs a ha w).mono ?_
    rintro e w' ⟨rfl, rfl⟩
    clear HT gT
    go_wp2
    go_ret
    exact ⟨rfl, rfl⟩
  · show Calls _ _ _ _ fun e w' => e = .returned (.string (nN (tableAt Try.f32 4) a)) ∧ w' = w
    generalize hT : tableAt Try.f32 4 = T
    have hs : T.size = 32 := by rw [← hT]; kernel_rfl
    have HT := Lib.hid hT
    clear hT
    go_enter Try.func32, Try.ntmps32
    go_wp2_with fail
    generalize gT : ByteArray.mk _ = T'
    obtain rfl : T' = T := by rw [← gT, ← HT.out]; kernel_rfl
    refine (nth_any T' hs a ha w).mono ?_
    rintro e w' ⟨rfl, rfl⟩
    clear HT gT
    go_wp2
    go_ret
    exact ⟨rfl, rfl⟩
  · show Calls _ _ _ _ fun e w' => e = .returned (.string ⟨#[74, 65, 77]⟩) ∧ w' = w
    go_enter Try.func32, Try.ntmps32
    go_wp2
    go_ret
    exact ⟨rfl, rfl⟩
  · show Calls _ _ _ _ fun e w' => e = .returned (.string (nN (tableAt Try.f32 4) a)) ∧ w' = w
    generalize hT : tableAt Try.f32 4 = T
    have hs : T.size = 32 := by rw [← hT]; kernel_rfl
    have HT := Lib.hid hT
    clear hT
    go_enter Try.func32, Try.ntmps32
    go_wp2_with fail
    generalize gT : ByteArray.mk _ = T'
    obtain rfl : T' = T := by rw [← gT, ← HT.out]; kernel_rfl
    refine (nth_any T' hs a ha w).mono ?_
    rintro e w' ⟨rfl, rfl⟩
    clear HT gT
    go_wp2
    go_ret
    exact ⟨rfl, rfl⟩
  · show Calls _ _ _ _ fun e w' => e = .returned (.string (nN (tableAt Try.f32 2) a)) ∧ w' = w
    generalize hT : tableAt Try.f32 2 = T
    have hs : T.size = 32 := by rw [← hT]; kernel_rfl
    have HT := Lib.hid hT
    clear hT
    go_enter Try.func32, Try.ntmps32
    go_wp2_with fail
    generalize gT : ByteArray.mk _ = T'
    obtain rfl : T' = T := by rw [← gT, ← HT.out]; kernel_rfl
    refine (nth_any T' hs a ha w).mono ?_
    rintro e w' ⟨rfl, rfl⟩
    clear HT gT
    go_wp2
    go_ret
    exact ⟨rfl, rfl⟩
  · show Calls _ _ _ _ fun e w' => e = .returned (.string (nN (tableAt Try.f32 3) a)) ∧ w' = w
    generalize hT : tableAt Try.f32 3 = T
    have hs : T.size = 32 := by rw [← hT]; kernel_rfl
    have HT := Lib.hid hT
    clear hT
    go_enter Try.func32, Try.ntmps32
    go_wp2_with fail
    generalize gT : ByteArray.mk _ = T'
    obtain rfl : T' = T := by rw [← gT, ← HT.out]; kernel_rfl
    refine (nth_any T' hs a ha w).mono ?_
    rintro e w' ⟨rfl, rfl⟩
    clear HT gT
    go_wp2
    go_ret
    exact ⟨rfl, rfl⟩
def threeN (T : Nat → ByteArray) (a b : Nat) : ByteArray := if b = 2 then nN (T 0) a else if b = 4 then nN (T 1) a else if b = 6 then nN (T 2) a else if b = 7 then nN (T 3) a else nN (T 4) a
theorem threeN_any (a b : Nat) (ha : a < 8) (hb : b < 8) (w : World) : Calls Try.prog 33 #[.int .i64 a, .int .i64 b] w fun e w' => e = .returned (.string (threeN (tableAt Try.f33) a b)) ∧ w' = w := by
  have h : b = 0 ∨ b = 1 ∨ b = 2 ∨ b = 3 ∨ b = 4 ∨ b = 5 ∨ b = 6 ∨ b = 7 := by omega
  clear hb
  rcases h with rfl | rfl | rfl | rfl | rfl | rfl | rfl | rfl
  · show Calls _ _ _ _ fun e w' => e = .returned (.string (nN (tableAt Try.f33 4) a)) ∧ w' = w
    generalize hT : tableAt Try.f33 4 = T
    have hs : T.size = 32 := by rw [← hT]; kernel_rfl
    have HT := Lib.hid hT
    clear hT
    go_enter Try.func33, Try.ntmps33
    go_wp2_with fail
    generalize gT : ByteArray.mk _ = T'
    obtain rfl : T' = T := by rw [← gT, ← HT.out]; kernel_rfl
    refine (nth_any T' hs a ha w).mono ?_
    rintro e w' ⟨rfl, rfl⟩
    clear HT gT
    go_wp2
    go_ret
    exact ⟨rfl, rfl⟩
  · show Calls _ _ _ _ fun e w' => e = .returned (.string (nN (tableAt Try.f33 4) a)) ∧ w' = w
    generalize hT : tableAt Try.f33 4 = T
    have hs : T.size = 32 := by rw [← hT]; kernel_rfl
    have HT := Lib.hid hT
    clear hT
    go_enter Try.func33, Try.ntmps33
    go_wp2_with fail
    generalize gT : ByteArray.mk _ = T'
    obtain rfl : T' = T := by rw [← gT, ← HT.out]; kernel_rfl
    refine (nth_any T' hs a ha w).mono ?_
    rintro e w' ⟨rfl, rfl⟩
    clear HT gT
    go_wp2
    go_ret
    exact ⟨rfl, rfl⟩
  · show Calls _ _ _ _ fun e w' => e = .returned (.string (nN (tableAt Try.f33 0) a)) ∧ w' = w
    generalize hT : tableAt Try.f33 0 = T
    have hs : T.size = 32 := by rw [← hT]; kernel_rfl
    have HT := Lib.hid hT
    clear hT
    go_enter Try.func33, Try.ntmps33
    go_wp2_with fail
    generalize gT : ByteArray.mk _ = T'
    obtain rfl : T' = T := by rw [← gT, ← HT.out]; kernel_rfl
    refine (nth_any T' hs a ha w).mono ?_
    rintro e w' ⟨rfl, rfl⟩
    clear HT gT
    go_wp2
    go_ret
    exact ⟨rfl, rfl⟩
  · show Calls _ _ _ _ fun e w' => e = .returned (.string (nN (tableAt Try.f33 4) a)) ∧ w' = w
    generalize hT : tableAt Try.f33 4 = T
    have hs : T.size = 32 := by rw [← hT]; kernel_rfl
    have HT := Lib.hid hT
    clear hT
    go_enter Try.func33, Try.ntmps33
    go_wp2_with fail
    generalize gT : ByteArray.mk _ = T'
    obtain rfl : T' = T := by rw [← gT, ← HT.out]; kernel_rfl
    refine (nth_any T' hs a ha w).mono ?_
    rintro e w' ⟨rfl, rfl⟩
    clear HT gT
    go_wp2
    go_ret
    exact ⟨rfl, rfl⟩
  · show Calls _ _ _ _ fun e w' => e = .returned (.string (nN (tableAt Try.f33 1) a)) ∧ w' = w
    generalize hT : tableAt Try.f33 1 = T
    have hs : T.size = 32 := by rw [← hT]; kernel_rfl
    have HT := Lib.hid hT
    clear hT
    go_enter Try.func33, Try.ntmps33
    go_wp2_with fail
    generalize gT : ByteArray.mk _ = T'
    obtain rfl : T' = T := by rw [← gT, ← HT.out]; kernel_rfl
    refine (nth_any T' hs a ha w).mono ?_
    rintro e w' ⟨rfl, rfl⟩
    clear HT gT
    go_wp2
    go_ret
    exact ⟨rfl, rfl⟩
  · show Calls _ _ _ _ fun e w' => e = .returned (.string (nN (tableAt Try.f33 4) a)) ∧ w' = w
    generalize hT : tableAt Try.f33 4 = T
    have hs : T.size = 32 := by rw [← hT]; kernel_rfl
    have HT := Lib.hid hT
    clear hT
    go_enter Try.func33, Try.ntmps33
    go_wp2_with fail
    generalize gT : ByteArray.mk _ = T'
    obtain rfl : T' = T := by rw [← gT, ← HT.out]; kernel_rfl
    refine (nth_any T' hs a ha w).mono ?_
    rintro e w' ⟨rfl, rfl⟩
    clear HT gT
    go_wp2
    go_ret
    exact ⟨rfl, rfl⟩
  · show Calls _ _ _ _ fun e w' => e = .returned (.string (nN (tableAt Try.f33 2) a)) ∧ w' = w
    generalize hT : tableAt Try.f33 2 = T
    have hs : T.size = 32 := by rw [← hT]; kernel_rfl
    have HT := Lib.hid hT
    clear hT
    go_enter Try.func33, Try.ntmps33
    go_wp2_with fail
    generalize gT : ByteArray.mk _ = T'
    obtain rfl : T' = T := by rw [← gT, ← HT.out]; kernel_rfl
    refine (nth_any T' hs a ha w).mono ?_
    rintro e w' ⟨rfl, rfl⟩
    clear HT gT
    go_wp2
    go_ret
    exact ⟨rfl, rfl⟩
  · show Calls _ _ _ _ fun e w' => e = .returned (.string (nN (tableAt Try.f33 3) a)) ∧ w' = w
    generalize hT : tableAt Try.f33 3 = T
    have hs : T.size = 32 := by rw [← hT]; kernel_rfl
    have HT := Lib.hid hT
    clear hT
    go_enter Try.func33, Try.ntmps33
    go_wp2_with fail
    generalize gT : ByteArray.mk _ = T'
    obtain rfl : T' = T := by rw [← gT, ← HT.out]; kernel_rfl
    refine (nth_any T' hs a ha w).mono ?_
    rintro e w' ⟨rfl, rfl⟩
    clear HT gT
    go_wp2
    go_ret
    exact ⟨rfl, rfl⟩
end Go.Proofs.Ytbekiknbjpdchaa
