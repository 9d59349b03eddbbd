/- More plain facts on where a screen and a palette lie. -/
import Derived.Test.YtbimklogfaihlaaPl
namespace Go.Proofs.Ytbimklogfaihlaa
open Go.RowKit
theorem sp_bd (l a : Int) : 0 ≤ sp l a ∧ sp l a < 4096 := by
  have := tb_bd l (a / 1024 % 4) (by omega) (by omega)
  unfold sp
  omega
theorem sp_bd2 (l a : Int) (h0 : 0 ≤ l) (h : l < 4) : sp l a < 2048 := by
  have : tb l (a / 1024 % 4) ≤ 1 := by
    unfold tb
    repeat' split
    all_goals omega
  unfold sp
  omega
theorem pl_bd (a : Int) : 0 ≤ pl a ∧ pl a < 32 := by
  unfold pl
  split <;> omega
theorem xor16384 (a : Int) (h0 : 0 ≤ a) (h1 : a ≤ 65535) : bits .xor .u16 a 16384 = if a / 16384 % 2 = 0 then a + 16384 else a - 16384 := by
  obtain ⟨A, rfl⟩ := Int.eq_ofNat_of_zero_le h0
  have := u16_xor_nat A 16384 (by omega) (by omega)
  have e : A ^^^ 16384 = if A / 16384 % 2 = 0 then A + 16384 else A - 16384 := by
    have e1 : A = 2 ^ 14 * (A / 16384) + A % 16384 := by omega
    have e2 : (16384 : Nat) = 2 ^ 14 * 1 + 0 := rfl
    have e3 : A / 16384 < 4 := by omega
    have e4 : A ^^^ 16384 = 2 ^ 14 * ((A / 16384) ^^^ 1) + ((A % 16384) ^^^ 0) := by
      apply Nat.eq_of_testBit_eq
      intro i
      conv => lhs; rw [e1, e2]
      rw [Nat.testBit_xor, Nat.testBit_two_pow_mul_add _ (by omega), Nat.testBit_two_pow_mul_add _ (by omega), Nat.testBit_two_pow_mul_add _ (by simp; omega)]
      split <;> simp
    rw [e4, Nat.xor_zero]
    have e5 : A / 16384 = 0 ∨ A / 16384 = 1 ∨ A / 16384 = 2 ∨ A / 16384 = 3 := by omega
    rcases e5 with e | e | e | e <;> rw [e] <;> simp <;> omega
  rw [e] at this
  have t : bits .xor .u16 (A : Int) 16384 = ((if A / 16384 % 2 = 0 then A + 16384 else A - 16384 : Nat) : Int) := by simpa using this
  rw [t]
  split <;> split <;> omega
theorem sp_mod (l a b : Int) (h : a % 4096 = b % 4096) : sp l a = sp l b := by
  unfold sp
  rw [show a / 1024 % 4 = b / 1024 % 4 from by omega, show a % 1024 = b % 1024 from by omega]
theorem pl_mod (a b : Int) (h : a % 32 = b % 32) : pl a = pl b := by
  unfold pl
  rw [h]
theorem sp_at (l x p : Int) (hx0 : 0 ≤ x) (hx1 : x ≤ 3) (hp0 : 0 ≤ p) (hp1 : p ≤ 255) : sp l (8192 + x * 1024 + p) = 1024 * tb l x + p := by
  unfold sp
  rw [show (8192 + x * 1024 + p) / 1024 % 4 = x from by omega, show (8192 + x * 1024 + p) % 1024 = p from by omega]
theorem tb_0 (x : Int) : tb 0 x = x / 2 := rfl
theorem tb_1 (x : Int) : tb 1 x = x % 2 := rfl
theorem tb_2 (x : Int) : tb 2 x = 0 := rfl
theorem tb_3 (x : Int) : tb 3 x = 1 := rfl
theorem tb_4 (x : Int) : tb 4 x = x := rfl
theorem quo2 (x : Int) (h0 : 0 ≤ x) (h1 : x ≤ 65535) : IntKind.u16.wrap (x.tdiv 2) = x / 2 := by
  rw [Int.tdiv_eq_ediv_of_nonneg h0, IntWalk.u16_in _ (by omega)]
end Go.Proofs.Ytbimklogfaihlaa
