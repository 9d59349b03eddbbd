/- Plain laws on what is alike: it tells alike, stays alike when it is loaded with what is alike, and shifted. -/
import Derived.Test.YtnmobjjinidmiaaPl5
namespace Go.Proofs.Ytnmobjjinidmiaa
open Go.RowKit
theorem bi_ld (a v : Int) (i : Nat) (hi : i < 16) (v0 : 0 ≤ v) (v1 : v ≤ 255) : bi (ld a v) i = if i < 8 then bi v i else bi a i := by
  unfold bi ld
  have e : i = 0 ∨ i = 1 ∨ i = 2 ∨ i = 3 ∨ i = 4 ∨ i = 5 ∨ i = 6 ∨ i = 7 ∨ i = 8 ∨ i = 9 ∨ i = 10 ∨ i = 11 ∨ i = 12 ∨ i = 13 ∨ i = 14 ∨ i = 15 := by omega
  rcases e with rfl | rfl | rfl | rfl | rfl | rfl | rfl | rfl | rfl | rfl | rfl | rfl | rfl | rfl | rfl | rfl
  all_goals
    simp only [Nat.reduceLT, if_true, if_false, Int.reducePow]
    omega
theorem bi_spr (b : Bool) (i : Nat) (hi : i < 8) : bi (spr b) i = if b then 1 else 0 := by
  have e : i = 0 ∨ i = 1 ∨ i = 2 ∨ i = 3 ∨ i = 4 ∨ i = 5 ∨ i = 6 ∨ i = 7 := by omega
  rcases e with rfl | rfl | rfl | rfl | rfl | rfl | rfl | rfl <;> cases b <;> decide
theorem bi_sh0 (a : Int) : bi (sh a) 0 = 0 := by unfold bi sh; omega
theorem bi_sh (a : Int) (i : Nat) (hi : i < 15) : bi (sh a) (i + 1) = bi a i := by
  unfold bi sh
  have e : i = 0 ∨ i = 1 ∨ i = 2 ∨ i = 3 ∨ i = 4 ∨ i = 5 ∨ i = 6 ∨ i = 7 ∨ i = 8 ∨ i = 9 ∨ i = 10 ∨ i = 11 ∨ i = 12 ∨ i = 13 ∨ i = 14 := by omega
  rcases e with rfl | rfl | rfl | rfl | rfl | rfl | rfl | rfl | rfl | rfl | rfl | rfl | rfl | rfl | rfl
  all_goals
    simp only [Nat.reduceAdd, Int.reducePow]
    omega
theorem bt_bi (a u : Int) : bt a u = bi a (15 - u % 8).toNat := rfl
/-- what is alike tells alike -/
theorem alk_tells (a b c d e a' b' c' d' e' u : Int) (h : alk a b c d e a' b' c' d' e' = true) : ds e u = ds e' u ∧ (ds e u = false → dv a b c d u = dv a' b' c' d' u) := by
  have hk := (alk_iff a b c d e a' b' c' d' e').1 h (15 - u % 8).toNat (by omega)
  unfold alkAt at hk
  unfold ds dv
  simp only [bt_bi]
  refine ⟨by rw [hk.1], fun hd => ?_⟩
  have h0 : bi e (15 - u % 8).toNat = 0 := by
    have := bi_bd e (15 - u % 8).toNat
    have hne : ¬ bi e (15 - u % 8).toNat = 1 := by simpa using hd
    omega
  obtain ⟨p, q, r, s⟩ := hk.2 h0
  rw [p, q, r, s]
/-- shifted it stays alike -/
theorem alk_shift (a b c d e a' b' c' d' e' : Int) (h : alk a b c d e a' b' c' d' e' = true) : alk (sh a) (sh b) (sh c) (sh d) (sh e) (sh a') (sh b') (sh c') (sh d') (sh e') = true := by
  refine (alk_iff ..).2 fun i hi => ?_
  unfold alkAt
  cases i with
  | zero => simp [bi_sh0]
  | succ k =>
    have hk := (alk_iff a b c d e a' b' c' d' e').1 h k (by omega)
    unfold alkAt at hk
    simpa only [bi_sh _ k (by omega : k < 15)] using hk
/-- loaded with what is alike it stays alike -/
theorem alk_load (a b c d e a' b' c' d' lv hv lv' hv' p q : Int) (s ls hs : Bool) (h : alk a b c d e a' b' c' d' e = true) (l0 : 0 ≤ lv) (l1 : lv ≤ 255) (h0 : 0 ≤ hv) (h1 : hv ≤ 255) (l0' : 0 ≤ lv') (l1' : lv' ≤ 255) (h0' : 0 ≤ hv') (h1' : hv' ≤ 255)
    (p0 : 0 ≤ p) (p1 : p ≤ 255) (q0 : 0 ≤ q) (q1 : q ≤ 255) (hl : ls = false → lv' = lv) (hh : hs = false → hv' = hv) :
    alk (ld a lv) (ld b hv) (ld c p) (ld d q) (ld e (spr (s || ls || hs))) (ld a' lv') (ld b' hv') (ld c' p) (ld d' q) (ld e (spr (s || ls || hs))) = true := by
  obtain ⟨r0, r1⟩ := spr_bd (s || ls || hs)
  refine (alk_iff ..).2 fun i hi => ?_
  have hk := (alk_iff a b c d e a' b' c' d' e).1 h i hi
  unfold alkAt at hk ⊢
  refine ⟨rfl, ?_⟩
  simp only [bi_ld _ _ i hi l0 l1, bi_ld _ _ i hi h0 h1, bi_ld _ _ i hi l0' l1', bi_ld _ _ i hi h0' h1', bi_ld _ _ i hi p0 p1, bi_ld _ _ i hi q0 q1, bi_ld _ _ i hi r0 r1]
  by_cases h8 : i < 8
  · simp only [if_pos h8]
    intro hz
    rw [bi_spr _ i h8] at hz
    cases hs
    · cases ls
      · rw [hl rfl, hh rfl]
        simp
      · simp at hz
    · simp at hz
  · simp only [if_neg h8]
    exact hk.2
/-- a number changed where the label is set -/
theorem alk_where (A B C D E n : Nat) : alk A B C D E ((A ^^^ (n &&& E) : Nat) : Int) ((B ^^^ (n &&& E) : Nat) : Int) ((C ^^^ (n &&& E) : Nat) : Int) ((D ^^^ (n &&& E) : Nat) : Int) E = true := by
  refine (alk_iff ..).2 fun i hi => ?_
  unfold alkAt
  refine ⟨rfl, ?_⟩
  simp only [bi_same, bi_zero]
  intro hz
  simp only [Nat.testBit_xor, Nat.testBit_and, hz]
  simp
/-- the numbers that the law makes -/
theorem made (a b c d e n lv hv : Int) (a0 : 0 ≤ a) (a1 : a ≤ 65535) (b0 : 0 ≤ b) (b1 : b ≤ 65535) (c0 : 0 ≤ c) (c1 : c ≤ 65535) (d0 : 0 ≤ d) (d1 : d ≤ 65535) (e0 : 0 ≤ e) (e1 : e ≤ 65535) (n0 : 0 ≤ n) (n1 : n ≤ 65535)
    (l0 : 0 ≤ lv) (l1 : lv ≤ 255) (h0 : 0 ≤ hv) (h1 : hv ≤ 255) :
    ∃ m oa ob oc od xl xh : Int, bits .and .u16 n e = m ∧ bits .xor .u16 a m = oa ∧ bits .xor .u16 b m = ob ∧ bits .xor .u16 c m = oc ∧ bits .xor .u16 d m = od ∧ bits .xor .u8 lv (n % 256) = xl ∧ bits .xor .u8 hv (n / 256) = xh ∧
      (0 ≤ m ∧ m ≤ 65535) ∧ (0 ≤ oa ∧ oa ≤ 65535) ∧ (0 ≤ ob ∧ ob ≤ 65535) ∧ (0 ≤ oc ∧ oc ≤ 65535) ∧ (0 ≤ od ∧ od ≤ 65535) ∧ (0 ≤ xl ∧ xl ≤ 255) ∧ (0 ≤ xh ∧ xh ≤ 255) ∧ alk a b c d e oa ob oc od e = true := by
  obtain ⟨A, rfl, hA⟩ := u16_nat a a0 a1
  obtain ⟨B, rfl, hB⟩ := u16_nat b b0 b1
  obtain ⟨C, rfl, hC⟩ := u16_nat c c0 c1
  obtain ⟨D, rfl, hD⟩ := u16_nat d d0 d1
  obtain ⟨E, rfl, hE⟩ := u16_nat e e0 e1
  obtain ⟨N, rfl, hN⟩ := u16_nat n n0 n1
  obtain ⟨L, rfl, hL⟩ : ∃ k : Nat, lv = k ∧ k < 256 := ⟨lv.toNat, by omega, by omega⟩
  obtain ⟨H, rfl, hH⟩ : ∃ k : Nat, hv = k ∧ k < 256 := ⟨hv.toNat, by omega, by omega⟩
  have km : N &&& E < 2 ^ 16 := Nat.and_lt_two_pow _ hE
  have k0 : A ^^^ (N &&& E) < 2 ^ 16 := Nat.xor_lt_two_pow hA km
  have k1 : B ^^^ (N &&& E) < 2 ^ 16 := Nat.xor_lt_two_pow hB km
  have k2 : C ^^^ (N &&& E) < 2 ^ 16 := Nat.xor_lt_two_pow hC km
  have k3 : D ^^^ (N &&& E) < 2 ^ 16 := Nat.xor_lt_two_pow hD km
  have k4 : L ^^^ (N % 256) < 2 ^ 8 := Nat.xor_lt_two_pow hL (Nat.mod_lt _ (by omega))
  have k5 : H ^^^ (N / 256) < 2 ^ 8 := Nat.xor_lt_two_pow hH (by omega)
  refine ⟨_, _, _, _, _, _, _, u16_and_nat N E hN hE, u16_xor_nat A _ hA km, u16_xor_nat B _ hB km, u16_xor_nat C _ hC km, u16_xor_nat D _ hD km, u8_xor_nat L (N % 256) hL (by omega), u8_xor_nat H (N / 256) hH (by omega), ?_, ?_, ?_, ?_, ?_, ?_, ?_, alk_where A B C D E N⟩
  all_goals exact ⟨by omega, by omega⟩
end Go.Proofs.Ytnmobjjinidmiaa
