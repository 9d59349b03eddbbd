/- Plain facts on the bits of a tile's numbers. No program in sight, but for the model's own words 'bits' and 'wrap'. -/
import Derived.WalkKit
import Derived.ProofKit
import Derived.Laws.BitsAllLaws
namespace Go.Proofs.Ytnmobjjinidmiaa
open Go.RowKit

theorem gtrans {a b c : World} (h1 : Grown a b) (h2 : Grown b c) : Grown a c :=
  ⟨World.keptBut_trans h1.1 h2.1, fun x => (h2.2.1 x).trans (h1.2.1 x), Nat.le_trans h1.2.2 h2.2.2⟩

/-- shifted by one -/
def sh (a : Int) : Int := a * 2 % 65536
theorem sh_w (a : Int) : IntKind.u16.wrap (a * 2) = sh a := IntKind.wrap_u16 _
theorem sh_bd (a : Int) : 0 ≤ sh a ∧ sh a ≤ 65535 := by unfold sh; omega

/-- the lower eight bits are others -/
def ld (a v : Int) : Int := a / 256 * 256 + v
theorem ld_bd (a v : Int) (a0 : 0 ≤ a) (a1 : a ≤ 65535) (v0 : 0 ≤ v) (v1 : v ≤ 255) : 0 ≤ ld a v ∧ ld a v ≤ 65535 := by unfold ld; omega
def spr (b : Bool) : Int := if b then 255 else 0
theorem spr_bd (b : Bool) : 0 ≤ spr b ∧ spr b ≤ 255 := by cases b <;> simp [spr]

theorem nat_high (A : Nat) (h : A < 65536) : A &&& 65280 = A / 256 * 256 := by
  have e1 : A = 2 ^ 8 * (A / 256) + A % 256 := by omega
  have e2 : (65280 : Nat) = 2 ^ 8 * 255 + 0 := rfl
  have e4 : A &&& 65280 = 2 ^ 8 * ((A / 256) &&& 255) + ((A % 256) &&& 0) := by
    apply Nat.eq_of_testBit_eq
    intro i
    conv => lhs; rw [e1, e2]
    rw [Nat.testBit_and, Nat.testBit_two_pow_mul_add _ (by omega), Nat.testBit_two_pow_mul_add _ (by omega), Nat.testBit_two_pow_mul_add _ (by simp)]
    split <;> simp
  rw [e4, nat_mask8, Nat.and_zero]
  omega
theorem and65280 (a : Int) (h0 : 0 ≤ a) (h1 : a ≤ 65535) : bits .and .u16 a 65280 = a / 256 * 256 := by
  obtain ⟨A, rfl⟩ := Int.eq_ofNat_of_zero_le h0
  have := u16_and_nat A 65280 (by omega) (by omega)
  rw [nat_high A (by omega)] at this
  simpa using this
theorem or_ld (a v : Int) (h0 : 0 ≤ a) (h1 : a ≤ 65535) (v0 : 0 ≤ v) (v1 : v ≤ 255) : bits .or .u16 (a / 256 * 256) v = ld a v := by
  obtain ⟨A, rfl⟩ := Int.eq_ofNat_of_zero_le h0
  obtain ⟨V, rfl⟩ := Int.eq_ofNat_of_zero_le v0
  have := u16_or_nat (A / 256 * 256) V (by omega) (by omega)
  rw [nat_join 8 (A / 256 * 256) V (by omega) (by omega)] at this
  unfold ld
  rw [show (A : Int) / 256 * 256 = ((A / 256 * 256 : Nat) : Int) from by omega, this]
  omega

/-- a dot's bit of a number -/
def bt (a x : Int) : Int := a / 2 ^ (15 - x % 8).toNat % 2
theorem bt_bd (a x : Int) : 0 ≤ bt a x ∧ bt a x ≤ 1 := by unfold bt; omega
theorem and1 (a : Int) (h0 : 0 ≤ a) (h1 : a ≤ 65535) : bits .and .u16 a 1 = a % 2 := by
  obtain ⟨A, rfl⟩ := Int.eq_ofNat_of_zero_le h0
  have := u16_and_nat A 1 (by omega) (by omega)
  rw [nat_mask1] at this
  simpa using this
theorem div_bd (a : Int) (n : Nat) (h0 : 0 ≤ a) (h1 : a ≤ 65535) : 0 ≤ a / 2 ^ n ∧ a / 2 ^ n ≤ 65535 :=
  ⟨Int.ediv_nonneg h0 (Int.le_of_lt (Int.pow_pos (by omega))), Int.le_trans (Int.ediv_le_self _ h0) h1⟩
theorem bt_w (a x : Int) (h0 : 0 ≤ a) (h1 : a ≤ 65535) : bits .and .u16 (a / 2 ^ (15 - x % 8).toNat) 1 = bt a x := by
  obtain ⟨d0, d1⟩ := div_bd a (15 - x % 8).toNat h0 h1
  rw [and1 _ d0 d1]
  rfl
theorem and7 (a : Int) (h0 : 0 ≤ a) (h1 : a ≤ 255) : bits .and .u8 a 7 = a % 8 := by
  obtain ⟨A, rfl⟩ := Int.eq_ofNat_of_zero_le h0
  have := u8_and_nat A 7 (by omega) (by omega)
  rw [nat_mask3] at this
  simpa using this
theorem or_int (p0 p1 p2 p3 p4 : Int) (h0 : 0 ≤ p0 ∧ p0 ≤ 1) (h1 : 0 ≤ p1 ∧ p1 ≤ 1) (h2 : 0 ≤ p2 ∧ p2 ≤ 1) (h3 : 0 ≤ p3 ∧ p3 ≤ 1) (h4 : 0 ≤ p4 ∧ p4 ≤ 1) :
    bits .or .u8 0 p0 = p0 ∧ bits .or .u8 p0 (p1 * 2) = p0 + p1 * 2 ∧ bits .or .u8 (p0 + p1 * 2) (p2 * 4) = p0 + p1 * 2 + p2 * 4 ∧
    bits .or .u8 (p0 + p1 * 2 + p2 * 4) (p3 * 8) = p0 + p1 * 2 + p2 * 4 + p3 * 8 ∧ bits .or .u8 (p0 + p1 * 2 + p2 * 4 + p3 * 8) (p4 * 16) = p0 + p1 * 2 + p2 * 4 + p3 * 8 + p4 * 16 ∧
    bits .and .u8 (p0 + p1 * 2 + p2 * 4 + p3 * 8 + p4 * 16) 15 = p0 + p1 * 2 + p2 * 4 + p3 * 8 := by
  have e0 : p0 = 0 ∨ p0 = 1 := by omega
  have e1 : p1 = 0 ∨ p1 = 1 := by omega
  have e2 : p2 = 0 ∨ p2 = 1 := by omega
  have e3 : p3 = 0 ∨ p3 = 1 := by omega
  have e4 : p4 = 0 ∨ p4 = 1 := by omega
  clear h0 h1 h2 h3 h4
  rcases e0 with rfl | rfl <;> rcases e1 with rfl | rfl <;> rcases e2 with rfl | rfl <;> rcases e3 with rfl | rfl <;> rcases e4 with rfl | rfl <;> decide
/-- what a dot tells: its number, and whether it is secret -/
def dv (a b c d x : Int) : Int := bt a x + bt b x * 2 + bt c x * 4 + bt d x * 8
def ds (e x : Int) : Bool := bt e x == 1
end Go.Proofs.Ytnmobjjinidmiaa
