/- The contracts of the document's package: Mode, by an opcode's parts. -/
import Derived.Test.YtbekiknbjpdchaaF
namespace Go.Proofs.Ytbekiknbjpdchaa
open Go.ChangeShapes Go.WideShapes Go.ChangeAt Go.RowKit
set_option linter.unusedVariables false
/-- a mode, by an opcode's parts, whether the name is JAM, or JMP, and whether it is of those that go by Y -/
def md (a b c : Nat) (jam jmp y : Bool) : Int :=
  if jam = true then 20
  else if b = 0 then (if c = 1 ∨ c = 3 then 9 else if c = 0 ∧ a < 4 then (if a = 0 then 17 else if a = 1 then 14 else if a = 2 then 16 else 15) else 2)
  else if b = 1 then 3
  else if b = 2 then (if c = 1 ∨ c = 3 then 2 else if c = 0 ∧ a < 4 then (if a = 0 ∨ a = 2 then 18 else 19) else if c = 2 ∧ a < 4 then 1 else 0)
  else if b = 3 then (if jmp = true then 15 - a else 6)
  else if b = 4 then (if c = 0 then 11 else 10)
  else if b = 5 then (if y = true then 5 else 4)
  else if b = 6 then (if c = 1 ∨ c = 3 then 8 else 0)
  else (if y = true then 8 else 7)
theorem one_at (T' T : ByteArray) (h : T' = T) (s : ByteArray) (r : Bool) (w : World) (q : Calls Try.prog 23 #[.string T, .string s] w fun e w' => e = .returned (.bool r) ∧ w' = w) : Calls Try.prog 23 #[.string T', .string s] w fun e w' => e = .returned (.bool r) ∧ w' = w := by
  subst h
  exact q
set_option maxHeartbeats 8000000 in
theorem mode_core (n a b c : Nat) (h : n < 256) (ha : a < 8) (hb : b < 8) (hc : c < 4) (e1 : (n : Int) / 32 = a) (e2 : (n : Int) / 4 % 8 = b) (e3 : (n : Int) % 4 = c) (s : ByteArray) (hs : nm (tableAt Try.f31) (tableAt Try.f32) (tableAt Try.f33) (tableAt Try.f20) a b c = s)
    (jam jmp y : Bool) (hj : (s.toList == [74, 65, 77]) = jam) (hp : (s.toList == [74, 77, 80]) = jmp) (hy : ones (tableAt Try.f21 0) s 6 = y) (w : World) : Calls Try.prog 21 #[.int .i64 n] w fun e w' => e = .returned (.int .i64 (md a b c jam jmp y)) ∧ Below w.heap.size w w' := by
  have Q1 := Lib.hid (name_core n a b c h ha hb hc e1 e2 e3 w)
  rw [hs] at Q1
  have hsz : (tableAt Try.f21 0).size = 4 * 6 := by kernel_rfl
  obtain ⟨T, hT⟩ : ∃ T, tableAt Try.f21 0 = T := ⟨_, rfl⟩
  rw [hT] at hsz hy
  have Q2 := Lib.hid (one_any T s 6 (by decide) hsz w)
  rw [hy] at Q2
  have HT := Lib.hid hT
  have E1 := Lib.hid e1
  have E2 := Lib.hid e2
  have E3 := Lib.hid e3
  have wa : wrap64 (a : Int) = a := IntWalk.wrap64_in _ (by omega)
  have wn : wrap64 ((n : Int) / 4) = (n : Int) / 4 := IntWalk.wrap64_in _ (by omega)
  have tm : ((n : Int) / 4).tmod 8 = b := by rw [Int.tmod_eq_emod_of_nonneg (by omega)]; exact e2
  clear hs hy hT hsz e1 e2 e3 h
  go_enter Try.func21, Try.ntmps21
  go_wp2_with fail
  simp only [E1.out, E3.out, wa, wn]
  refine Q1.out.mono ?_
  rintro e w' ⟨rfl, rfl⟩
  go_wp2_with fail
  refine (one_at _ T (by rw [← HT.out]; kernel_rfl) _ _ _ Q2.out).mono ?_
  rintro e w' ⟨rfl, rfl⟩
  have fin : ∀ r : Int, r = md a b c jam jmp y → Ending.returned (Value.int .i64 r) = Ending.returned (Value.int .i64 (md a b c jam jmp y)) := fun r h => by rw [h]
  have Fin := Lib.hid fin
  clear fin E1 E2 E3 HT Q1 Q2 wa wn tm
  cases jam
  · have hb' : b = 0 ∨ b = 1 ∨ b = 2 ∨ b = 3 ∨ b = 4 ∨ b = 5 ∨ b = 6 ∨ b = 7 := by omega
    have hc' : c = 0 ∨ c = 1 ∨ c = 2 ∨ c = 3 := by omega
    clear hb hc
    rcases hb' with rfl | rfl | rfl | rfl | rfl | rfl | rfl | rfl
    · rcases hc' with rfl | rfl | rfl | rfl
      · by_cases h4 : a < 4
        · have h5 : a = 0 ∨ a = 1 ∨ a = 2 ∨ a = 3 := by omega
          clear h4 ha
          rcases h5 with rfl | rfl | rfl | rfl
          · go_wp2_with fail
            go_ret
            exact ⟨Fin.out _ (by simp [md]), by go_grown⟩
          · go_wp2_with fail
            go_ret
            exact ⟨Fin.out _ (by simp [md]), by go_grown⟩
          · go_wp2_with fail
            go_ret
            exact ⟨Fin.out _ (by simp [md]), by go_grown⟩
          · go_wp2_with fail
            go_ret
            exact ⟨Fin.out _ (by simp [md]), by go_grown⟩
        · go_wp2_with fail
          go_ret
          exact ⟨Fin.out _ (by unfold md; simp [h4]), by go_grown⟩
      · go_wp2_with fail
        go_ret
        exact ⟨Fin.out _ (by simp [md]), by go_grown⟩
      · go_wp2_with fail
        go_ret
        exact ⟨Fin.out _ (by simp [md]), by go_grown⟩
      · go_wp2_with fail
        go_ret
        exact ⟨Fin.out _ (by simp [md]), by go_grown⟩
    · go_wp2_with fail
      go_ret
      exact ⟨Fin.out _ (by simp [md]), by go_grown⟩
    · rcases hc' with rfl | rfl | rfl | rfl
      · by_cases h4 : a < 4
        · have h5 : a = 0 ∨ a = 1 ∨ a = 2 ∨ a = 3 := by omega
          clear h4 ha
          rcases h5 with rfl | rfl | rfl | rfl
          · go_wp2_with fail
            go_ret
            exact ⟨Fin.out _ (by simp [md]), by go_grown⟩
          · go_wp2_with fail
            go_ret
            exact ⟨Fin.out _ (by simp [md]), by go_grown⟩
          · go_wp2_with fail
            go_ret
            exact ⟨Fin.out _ (by simp [md]), by go_grown⟩
          · go_wp2_with fail
            go_ret
            exact ⟨Fin.out _ (by simp [md]), by go_grown⟩
        · go_wp2_with fail
          go_ret
          exact ⟨Fin.out _ (by unfold md; simp [h4]), by go_grown⟩
      · go_wp2_with fail
        go_ret
        exact ⟨Fin.out _ (by simp [md]), by go_grown⟩
      · by_cases h4 : a < 4
        · go_wp2_with fail
          go_ret
          exact ⟨Fin.out _ (by unfold md; simp [h4]), by go_grown⟩
        · go_wp2_with fail
          go_ret
          exact ⟨Fin.out _ (by unfold md; simp [h4]), by go_grown⟩
      · go_wp2_with fail
        go_ret
        exact ⟨Fin.out _ (by simp [md]), by go_grown⟩
    · cases jmp
      · go_wp2_with fail
        go_ret
        exact ⟨Fin.out _ (by simp [md]), by go_grown⟩
      · have w5 : wrap64 (15 - (a : Int)) = 15 - a := IntWalk.wrap64_in _ (by omega)
        go_wp2_with fail
        go_ret
        exact ⟨Fin.out _ (by simp [md]), by go_grown⟩
    · rcases hc' with rfl | rfl | rfl | rfl
      · go_wp2_with fail
        go_ret
        exact ⟨Fin.out _ (by simp [md]), by go_grown⟩
      · go_wp2_with fail
        go_ret
        exact ⟨Fin.out _ (by simp [md]), by go_grown⟩
      · go_wp2_with fail
        go_ret
        exact ⟨Fin.out _ (by simp [md]), by go_grown⟩
      · go_wp2_with fail
        go_ret
        exact ⟨Fin.out _ (by simp [md]), by go_grown⟩
    · cases y
      · go_wp2_with fail
        go_ret
        exact ⟨Fin.out _ (by simp [md]), by go_grown⟩
      · go_wp2_with fail
        go_ret
        exact ⟨Fin.out _ (by simp [md]), by go_grown⟩
    · rcases hc' with rfl | rfl | rfl | rfl
      · go_wp2_with fail
        go_ret
        exact ⟨Fin.out _ (by simp [md]), by go_grown⟩
      · go_wp2_with fail
        go_ret
        exact ⟨Fin.out _ (by simp [md]), by go_grown⟩
      · go_wp2_with fail
        go_ret
        exact ⟨Fin.out _ (by simp [md]), by go_grown⟩
      · go_wp2_with fail
        go_ret
        exact ⟨Fin.out _ (by simp [md]), by go_grown⟩
    · cases y
      · go_wp2_with fail
        go_ret
        exact ⟨Fin.out _ (by simp [md]), by go_grown⟩
      · go_wp2_with fail
        go_ret
        exact ⟨Fin.out _ (by simp [md]), by go_grown⟩
  · go_wp2_with fail
    go_ret
    exact ⟨Fin.out _ rfl, Below.refl _ _⟩
end Go.Proofs.Ytbekiknbjpdchaa
