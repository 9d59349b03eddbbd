/- The contracts of the document's package: Use, Cycles, Long; and the program's Long at any mode. -/
import Derived.Test.YtbekiknbjpdchaaG
import Derived.Test.YtbekiknbjpdchaaQ
namespace Go.Proofs.Ytbekiknbjpdchaa
open Go.ChangeShapes Go.WideShapes Go.ChangeAt Go.RowKit
set_option linter.unusedVariables false
/-- a use, by a mode, and by whether a name is of those that write, or of those that read and write -/
def ur (m : Int) (x y : Bool) : Int := if m < 2 ∨ 10 < m then 0 else if x = true then 2 else if y = true then 3 else 1
theorem ruse_any (s : ByteArray) (m : Int) (w : World) : Calls Try.prog 22 #[.string s, .int .i64 m] w fun e w' => e = .returned (.int .i64 (ur m (ones (tableAt Try.f22 0) s 8) (ones (tableAt Try.f22 1) s 12))) ∧ w' = w := by
  by_cases h : m < 2 ∨ 10 < m
  · unfold ur
    rw [if_pos h]
    rcases h with h | h
    all_goals
      go_enter Try.func22, Try.ntmps22
      go_wp2
      go_ret
      exact ⟨rfl, rfl⟩
  · have h0 : 2 ≤ m := by omega
    have h1 : m ≤ 10 := by omega
    unfold ur
    rw [if_neg h]
    have hs1 : (tableAt Try.f22 0).size = 4 * 8 := by kernel_rfl
    have hs2 : (tableAt Try.f22 1).size = 4 * 12 := by kernel_rfl
    obtain ⟨T, hT⟩ : ∃ T, tableAt Try.f22 0 = T := ⟨_, rfl⟩
    obtain ⟨U, hU⟩ : ∃ U, tableAt Try.f22 1 = U := ⟨_, rfl⟩
    rw [hT] at hs1 ⊢
    rw [hU] at hs2 ⊢
    have Q1 := Lib.hid (one_any T s 8 (by decide) hs1 w)
    have Q2 := Lib.hid (one_any U s 12 (by decide) hs2 w)
    have HT := Lib.hid hT
    have HU := Lib.hid hU
    clear hT hU hs1 hs2
    generalize ones T s 8 = x at Q1 ⊢
    generalize ones U s 12 = y at Q2 ⊢
    go_enter Try.func22, Try.ntmps22
    go_wp2_with fail
    refine (one_at _ T (by rw [← HT.out]; kernel_rfl) _ _ _ Q1.out).mono ?_
    rintro e w' ⟨rfl, rfl⟩
    cases x
    · go_wp2_with fail
      refine (one_at _ U (by rw [← HU.out]; kernel_rfl) _ _ _ Q2.out).mono ?_
      rintro e w' ⟨rfl, rfl⟩
      cases y
      · go_wp2_with fail
        go_ret
        exact ⟨rfl, rfl⟩
      · go_wp2_with fail
        go_ret
        exact ⟨rfl, rfl⟩
    · go_wp2_with fail
      go_ret
      exact ⟨rfl, rfl⟩
theorem rcycles_any (m u : Int) (w : World) (h : Fits m u) (h2 : m = 2 → u = 1) : Calls Try.prog 24 #[.int .i64 m, .int .i64 u] w fun e w' => e = .returned (.int .i64 (cy m u)) ∧ w' = w := by
  rcases h with ⟨rfl, h⟩ | ⟨hu, h⟩
  · rcases h with rfl | rfl | rfl | rfl | rfl | rfl | rfl | rfl | rfl | rfl | rfl | rfl
    all_goals
      clear h2
      go_enter Try.func24, Try.ntmps24
      go_wp2
      go_ret
      exact ⟨rfl, rfl⟩
  · by_cases hm2 : m = 2
    · obtain rfl := h2 hm2
      subst hm2
      clear h2 h hu
      go_enter Try.func24, Try.ntmps24
      go_wp2
      go_ret
      exact ⟨rfl, rfl⟩
    · rcases h with h | rfl | rfl | rfl | rfl | rfl | rfl | rfl | rfl
      · exact absurd h hm2
      all_goals
        clear h2 hm2
        rcases hu with rfl | rfl | rfl
        all_goals
          go_enter Try.func24, Try.ntmps24
          go_wp2
          go_ret
          exact ⟨rfl, rfl⟩
theorem lg_1 {m : Int} (h : m = 0 ∨ m = 1 ∨ (15 ≤ m ∧ m ≤ 20)) : lg m = 1 := if_pos h
theorem lg_3 {m : Int} (h : (6 ≤ m ∧ m ≤ 8) ∨ (12 ≤ m ∧ m ≤ 14)) : lg m = 3 := by
  unfold lg
  rw [if_neg (by omega), if_pos h]
theorem lg_2 {m : Int} (h : (2 ≤ m ∧ m ≤ 5) ∨ (9 ≤ m ∧ m ≤ 11)) : lg m = 2 := by
  unfold lg
  rw [if_neg (by omega), if_neg (by omega), if_pos (by omega)]
theorem lg_0 {m : Int} (h : m < 0 ∨ 20 < m) : lg m = 0 := by
  unfold lg
  rw [if_neg (by omega), if_neg (by omega), if_neg (by omega)]
theorem rlong_any (m : Int) (w : World) : Calls Try.prog 12 #[.int .i64 m] w fun e w' => e = .returned (.int .i64 (lg m)) ∧ w' = w := by
  have hm : m < 0 ∨ m = 0 ∨ m = 1 ∨ (2 ≤ m ∧ m ≤ 5) ∨ (6 ≤ m ∧ m ≤ 8) ∨ (9 ≤ m ∧ m ≤ 11) ∨ (12 ≤ m ∧ m ≤ 14) ∨ (15 ≤ m ∧ m ≤ 20) ∨ 20 < m := by omega
  rcases hm with h | rfl | rfl | ⟨h, h'⟩ | ⟨h, h'⟩ | ⟨h, h'⟩ | ⟨h, h'⟩ | ⟨h, h'⟩ | h
  · rw [lg_0 (.inl h)]
    have b0 : (m == 0) = false := by
      rw [beq_eq_false_iff_ne]
      omega
    have b1 : (m == 1) = false := by
      rw [beq_eq_false_iff_ne]
      omega
    go_enter Try.func12, Try.ntmps12
    go_wp2
    go_ret
    exact ⟨rfl, rfl⟩
  · rw [lg_1 (.inl rfl)]
    go_enter Try.func12, Try.ntmps12
    go_wp2
    go_ret
    exact ⟨rfl, rfl⟩
  · rw [lg_1 (.inr (.inl rfl))]
    go_enter Try.func12, Try.ntmps12
    go_wp2
    go_ret
    exact ⟨rfl, rfl⟩
  · rw [lg_2 (.inl ⟨h, h'⟩)]
    have b0 : (m == 0) = false := by
      rw [beq_eq_false_iff_ne]
      omega
    have b1 : (m == 1) = false := by
      rw [beq_eq_false_iff_ne]
      omega
    go_enter Try.func12, Try.ntmps12
    go_wp2
    go_ret
    exact ⟨rfl, rfl⟩
  · rw [lg_3 (.inl ⟨h, h'⟩)]
    have b0 : (m == 0) = false := by
      rw [beq_eq_false_iff_ne]
      omega
    have b1 : (m == 1) = false := by
      rw [beq_eq_false_iff_ne]
      omega
    go_enter Try.func12, Try.ntmps12
    go_wp2
    go_ret
    exact ⟨rfl, rfl⟩
  · rw [lg_2 (.inr ⟨h, h'⟩)]
    have b0 : (m == 0) = false := by
      rw [beq_eq_false_iff_ne]
      omega
    have b1 : (m == 1) = false := by
      rw [beq_eq_false_iff_ne]
      omega
    go_enter Try.func12, Try.ntmps12
    go_wp2
    go_ret
    exact ⟨rfl, rfl⟩
  · rw [lg_3 (.inr ⟨h, h'⟩)]
    have b0 : (m == 0) = false := by
      rw [beq_eq_false_iff_ne]
      omega
    have b1 : (m == 1) = false := by
      rw [beq_eq_false_iff_ne]
      omega
    go_enter Try.func12, Try.ntmps12
    go_wp2
    go_ret
    exact ⟨rfl, rfl⟩
  · rw [lg_1 (.inr (.inr ⟨h, h'⟩))]
    have b0 : (m == 0) = false := by
      rw [beq_eq_false_iff_ne]
      omega
    have b1 : (m == 1) = false := by
      rw [beq_eq_false_iff_ne]
      omega
    go_enter Try.func12, Try.ntmps12
    go_wp2
    go_ret
    exact ⟨rfl, rfl⟩
  · rw [lg_0 (.inr h)]
    have b0 : (m == 0) = false := by
      rw [beq_eq_false_iff_ne]
      omega
    have b1 : (m == 1) = false := by
      rw [beq_eq_false_iff_ne]
      omega
    go_enter Try.func12, Try.ntmps12
    go_wp2
    go_ret
    exact ⟨rfl, rfl⟩
theorem long_all (s : ByteArray) (m u c : Int) (x g : Bool) (w : World) :
    Calls Try.prog 11 #[.agg #[.string s, .int .i64 m, .int .i64 u, .int .i64 c, .bool x, .bool g]] w fun e w' => e = .returned (.int .i64 (lg m)) ∧ Below w.heap.size w w' := by
  by_cases h : 0 ≤ m ∧ m ≤ 20
  · exact long_any s m u c x g w (by omega)
  · have h' : m < 0 ∨ 20 < m := by omega
    rw [lg_0 h']
    have b0 : (m == 0) = false := by
      rw [beq_eq_false_iff_ne]
      omega
    have b1 : (m == 1) = false := by
      rw [beq_eq_false_iff_ne]
      omega
    have b2 : (m == 2) = false := by
      rw [beq_eq_false_iff_ne]
      omega
    have b3 : (m == 3) = false := by
      rw [beq_eq_false_iff_ne]
      omega
    have b4 : (m == 4) = false := by
      rw [beq_eq_false_iff_ne]
      omega
    have b5 : (m == 5) = false := by
      rw [beq_eq_false_iff_ne]
      omega
    have b6 : (m == 6) = false := by
      rw [beq_eq_false_iff_ne]
      omega
    have b7 : (m == 7) = false := by
      rw [beq_eq_false_iff_ne]
      omega
    have b8 : (m == 8) = false := by
      rw [beq_eq_false_iff_ne]
      omega
    have b9 : (m == 9) = false := by
      rw [beq_eq_false_iff_ne]
      omega
    have b10 : (m == 10) = false := by
      rw [beq_eq_false_iff_ne]
      omega
    have b11 : (m == 11) = false := by
      rw [beq_eq_false_iff_ne]
      omega
    have b12 : (m == 12) = false := by
      rw [beq_eq_false_iff_ne]
      omega
    have b13 : (m == 13) = false := by
      rw [beq_eq_false_iff_ne]
      omega
    have b14 : (m == 14) = false := by
      rw [beq_eq_false_iff_ne]
      omega
    have b15 : (m == 15) = false := by
      rw [beq_eq_false_iff_ne]
      omega
    have b16 : (m == 16) = false := by
      rw [beq_eq_false_iff_ne]
      omega
    have b17 : (m == 17) = false := by
      rw [beq_eq_false_iff_ne]
      omega
    have b18 : (m == 18) = false := by
      rw [beq_eq_false_iff_ne]
      omega
    have b19 : (m == 19) = false := by
      rw [beq_eq_false_iff_ne]
      omega
    have b20 : (m == 20) = false := by
      rw [beq_eq_false_iff_ne]
      omega
    clear h h'
    go_enter Try.func11, Try.ntmps11
    go_wp2
    go_ret
    exact ⟨rfl, by go_grown⟩
end Go.Proofs.Ytbekiknbjpdchaa
