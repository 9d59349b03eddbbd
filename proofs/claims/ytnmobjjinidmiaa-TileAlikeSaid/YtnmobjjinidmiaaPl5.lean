/- When two tiles are alike: dot by dot, and as the program reckons it: the same. Plain facts, no program in sight. -/
import Derived.Test.YtnmobjjinidmiaaR
namespace Go.Proofs.Ytnmobjjinidmiaa
open Go.RowKit
theorem bi_nat (n i : Nat) : bi (n : Int) i = if n.testBit i then 1 else 0 := by
  unfold bi
  rw [Nat.testBit_eq_decide_div_mod_eq]
  have h : ((n : Int) / 2 ^ i % 2) = ((n / 2 ^ i % 2 : Nat) : Int) := by simp
  rw [h]
  rcases Nat.mod_two_eq_zero_or_one (n / 2 ^ i) with q | q <;> simp [q]
theorem bi_same (n m i : Nat) : bi (n : Int) i = bi (m : Int) i ↔ n.testBit i = m.testBit i := by
  rw [bi_nat, bi_nat]
  cases n.testBit i <;> cases m.testBit i <;> simp
theorem bi_zero (n i : Nat) : bi (n : Int) i = 0 ↔ n.testBit i = false := by
  rw [bi_nat]
  cases n.testBit i <;> simp
/-- dot number i of two tiles is alike -/
def alkAt (a b c d e a' b' c' d' e' : Int) (i : Nat) : Prop := bi e i = bi e' i ∧ (bi e i = 0 → bi a i = bi a' i ∧ bi b i = bi b' i ∧ bi c i = bi c' i ∧ bi d i = bi d' i)
instance (a b c d e a' b' c' d' e' : Int) (i : Nat) : Decidable (alkAt a b c d e a' b' c' d' e' i) := by unfold alkAt; infer_instance
/-- two tiles are alike -/
def alk (a b c d e a' b' c' d' e' : Int) : Bool := (List.range 16).all fun i => decide (alkAt a b c d e a' b' c' d' e' i)
theorem alk_iff (a b c d e a' b' c' d' e' : Int) : alk a b c d e a' b' c' d' e' = true ↔ ∀ i, i < 16 → alkAt a b c d e a' b' c' d' e' i := by
  unfold alk
  rw [List.all_eq_true]
  exact ⟨fun h i hi => of_decide_eq_true (h i (List.mem_range.2 hi)), fun h i hi => decide_eq_true (h i (List.mem_range.1 hi))⟩
theorem u16_nat (a : Int) (h0 : 0 ≤ a) (h1 : a ≤ 65535) : ∃ n : Nat, a = n ∧ n < 65536 := ⟨a.toNat, by omega, by omega⟩
theorem nat_alike (A B C D E A' B' C' D' E' : Nat) (hE : E < 65536) (hE' : E' < 65536) :
    (∀ i, i < 16 → alkAt A B C D E A' B' C' D' E' i) ↔ E = E' ∧ ((((A ^^^ A') ||| (B ^^^ B')) ||| (C ^^^ C')) ||| (D ^^^ D')) &&& (65535 - E) = 0 := by
  have ht : ∀ i, (65535 - E).testBit i = (decide (i < 16) && !E.testBit i) := fun i => by
    have := Nat.testBit_two_pow_sub_succ (x := E) (n := 16) hE i
    rw [← this]
    congr 1
    omega
  have hbig : ∀ (n i : Nat), n < 65536 → ¬ i < 16 → n.testBit i = false := fun n i hn hi =>
    Nat.testBit_lt_two_pow (Nat.lt_of_lt_of_le hn (by have := Nat.pow_le_pow_right (n := 2) (by omega) (Nat.le_of_not_lt hi); omega))
  unfold alkAt
  simp only [bi_same, bi_zero]
  constructor
  · intro h
    refine ⟨?_, ?_⟩
    · apply Nat.eq_of_testBit_eq
      intro i
      by_cases hi : i < 16
      · exact (h i hi).1
      · rw [hbig E i hE hi, hbig E' i hE' hi]
    · apply Nat.eq_of_testBit_eq
      intro i
      rw [Nat.testBit_and, ht, Nat.zero_testBit]
      by_cases hi : i < 16
      · have hx := (h i hi).2
        cases hEi : E.testBit i
        · obtain ⟨p, q, r, s⟩ := hx hEi
          simp only [Nat.testBit_or, Nat.testBit_xor, p, q, r, s]
          simp
        · simp
      · simp [hi]
  · rintro ⟨rfl, h⟩ i hi
    refine ⟨rfl, fun hEi => ?_⟩
    have hx := congrArg (fun n => n.testBit i) h
    simp only [Nat.testBit_and, ht, Nat.zero_testBit, hEi, hi, Nat.testBit_or, Nat.testBit_xor] at hx
    cases hA : A.testBit i <;> cases hA' : A'.testBit i <;> cases hB : B.testBit i <;> cases hB' : B'.testBit i <;> cases hC : C.testBit i <;> cases hC' : C'.testBit i <;> cases hD : D.testBit i <;> cases hD' : D'.testBit i <;> simp_all
/-- the program's numbers -/
theorem int_alike (a b c d e a' b' c' d' e' : Int) (a0 : 0 ≤ a) (a1 : a ≤ 65535) (b0 : 0 ≤ b) (b1 : b ≤ 65535) (c0 : 0 ≤ c) (c1 : c ≤ 65535) (d0 : 0 ≤ d) (d1 : d ≤ 65535) (e0 : 0 ≤ e) (e1 : e ≤ 65535)
    (a0' : 0 ≤ a') (a1' : a' ≤ 65535) (b0' : 0 ≤ b') (b1' : b' ≤ 65535) (c0' : 0 ≤ c') (c1' : c' ≤ 65535) (d0' : 0 ≤ d') (d1' : d' ≤ 65535) (e0' : 0 ≤ e') (e1' : e' ≤ 65535) :
    ∃ x0 x1 x2 x3 y1 y2 y3 z : Int, bits .xor .u16 a a' = x0 ∧ bits .xor .u16 b b' = x1 ∧ bits .xor .u16 c c' = x2 ∧ bits .xor .u16 d d' = x3 ∧ bits .or .u16 0 x0 = x0 ∧ bits .or .u16 x0 x1 = y1 ∧ bits .or .u16 y1 x2 = y2 ∧ bits .or .u16 y2 x3 = y3 ∧ bits .andNot .u16 y3 e = z ∧
      (0 ≤ x0 ∧ x0 ≤ 65535) ∧ (0 ≤ x1 ∧ x1 ≤ 65535) ∧ (0 ≤ x2 ∧ x2 ≤ 65535) ∧ (0 ≤ x3 ∧ x3 ≤ 65535) ∧ (0 ≤ y1 ∧ y1 ≤ 65535) ∧ (0 ≤ y2 ∧ y2 ≤ 65535) ∧ (0 ≤ y3 ∧ y3 ≤ 65535) ∧ alk a b c d e a' b' c' d' e' = (decide (e = e') && decide (z = 0)) := by
  obtain ⟨A, rfl, hA⟩ := u16_nat a a0 a1
  obtain ⟨B, rfl, hB⟩ := u16_nat b b0 b1
  obtain ⟨C, rfl, hC⟩ := u16_nat c c0 c1
  obtain ⟨D, rfl, hD⟩ := u16_nat d d0 d1
  obtain ⟨E, rfl, hE⟩ := u16_nat e e0 e1
  obtain ⟨A', rfl, hA'⟩ := u16_nat a' a0' a1'
  obtain ⟨B', rfl, hB'⟩ := u16_nat b' b0' b1'
  obtain ⟨C', rfl, hC'⟩ := u16_nat c' c0' c1'
  obtain ⟨D', rfl, hD'⟩ := u16_nat d' d0' d1'
  obtain ⟨E', rfl, hE'⟩ := u16_nat e' e0' e1'
  have k0 : A ^^^ A' < 2 ^ 16 := Nat.xor_lt_two_pow hA hA'
  have k1 : B ^^^ B' < 2 ^ 16 := Nat.xor_lt_two_pow hB hB'
  have k2 : C ^^^ C' < 2 ^ 16 := Nat.xor_lt_two_pow hC hC'
  have k3 : D ^^^ D' < 2 ^ 16 := Nat.xor_lt_two_pow hD hD'
  have l1 := Nat.or_lt_two_pow k0 k1
  have l2 := Nat.or_lt_two_pow l1 k2
  have l3 := Nat.or_lt_two_pow l2 k3
  have h0 := u16_or_nat 0 (A ^^^ A') (by omega) (by omega)
  rw [Nat.zero_or] at h0
  refine ⟨_, _, _, _, _, _, _, _, u16_xor_nat A A' hA hA', u16_xor_nat B B' hB hB', u16_xor_nat C C' hC hC', u16_xor_nat D D' hD hD', h0, u16_or_nat _ _ k0 k1, u16_or_nat _ _ l1 k2, u16_or_nat _ _ l2 k3, u16_andNot_nat _ _ l3 hE, ?_, ?_, ?_, ?_, ?_, ?_, ?_, ?_⟩
  all_goals first | (exact ⟨by omega, by omega⟩) | skip
  have hn := (alk_iff A B C D E A' B' C' D' E').trans (nat_alike A B C D E A' B' C' D' E' hE hE')
  rw [Bool.eq_iff_iff, hn, Bool.and_eq_true, decide_eq_true_iff, decide_eq_true_iff]
  exact ⟨fun h => ⟨by omega, by omega⟩, fun h => ⟨by omega, by omega⟩⟩
end Go.Proofs.Ytnmobjjinidmiaa
