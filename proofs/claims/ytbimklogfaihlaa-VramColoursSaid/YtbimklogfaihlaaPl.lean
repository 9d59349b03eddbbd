/- Plain facts on the picture's addresses: bits as remainders, where a screen and a palette lie. No program in sight, but for the model's own word 'bits'. -/
import Derived.WalkKit
import Derived.ProofKit
import Derived.Laws.BitsAllLaws
namespace Go.Proofs.Ytbimklogfaihlaa
open Go.RowKit

theorem gtrans {a b c : World} (h1 : Grown a b) (h2 : Grown b c) : Grown a c :=
  ⟨World.keptBut_trans h1.1 h2.1, fun x => (h2.2.1 x).trans (h1.2.1 x), Nat.le_trans h1.2.2 h2.2.2⟩

theorem and16383 (a : Int) (h0 : 0 ≤ a) (h1 : a ≤ 65535) : bits .and .u16 a 16383 = a % 16384 := by
  obtain ⟨A, rfl⟩ := Int.eq_ofNat_of_zero_le h0
  have := u16_and_nat A 16383 (by omega) (by omega)
  rw [nat_mask14] at this
  simpa using this
theorem and1023 (a : Int) (h0 : 0 ≤ a) (h1 : a ≤ 65535) : bits .and .u16 a 1023 = a % 1024 := by
  obtain ⟨A, rfl⟩ := Int.eq_ofNat_of_zero_le h0
  have := u16_and_nat A 1023 (by omega) (by omega)
  rw [nat_mask10] at this
  simpa using this
theorem and31 (a : Int) (h0 : 0 ≤ a) (h1 : a ≤ 65535) : bits .and .u16 a 31 = a % 32 := by
  obtain ⟨A, rfl⟩ := Int.eq_ofNat_of_zero_le h0
  have := u16_and_nat A 31 (by omega) (by omega)
  rw [nat_mask5] at this
  simpa using this
theorem and3 (a : Int) (h0 : 0 ≤ a) (h1 : a ≤ 65535) : bits .and .u16 a 3 = a % 4 := by
  obtain ⟨A, rfl⟩ := Int.eq_ofNat_of_zero_le h0
  have := u16_and_nat A 3 (by omega) (by omega)
  rw [nat_mask2] at this
  simpa using this
theorem and19 : ∀ i : Nat, i < 32 → (bits .and .i64 (i : Int) 19 == 16) = decide (i = 16 ∨ i = 20 ∨ i = 24 ∨ i = 28) := by decide +kernel

def tb (l q : Int) : Int := if l = 0 then q / 2 else if l = 1 then q % 2 else if l = 2 then 0 else if l = 3 then 1 else q
def sp (l a : Int) : Int := 1024 * tb l (a / 1024 % 4) + a % 1024
def pl (a : Int) : Int := if a % 32 = 16 ∨ a % 32 = 20 ∨ a % 32 = 24 ∨ a % 32 = 28 then a % 32 - 16 else a % 32

theorem or1024 (t r : Int) (h0 : 0 ≤ t) (h1 : t ≤ 3) (r0 : 0 ≤ r) (r1 : r < 1024) : bits .or .i64 (1024 * t) r = 1024 * t + r := by
  obtain ⟨T, rfl⟩ := Int.eq_ofNat_of_zero_le h0
  obtain ⟨R, rfl⟩ := Int.eq_ofNat_of_zero_le r0
  have hx : BitVec.ofInt 64 (1024 * (T : Int)) = BitVec.ofNat 64 (1024 * T) := by
    rw [show (1024 * (T : Int)) = ((1024 * T : Nat) : Int) from by omega, BitVec.ofInt_natCast]
  have hj : (1024 * T) ||| R = 1024 * T + R := nat_join 10 (1024 * T) R (by omega) (by omega)
  show IntKind.i64.wrap ((BitVec.ofInt 64 (1024 * (T : Int)) ||| BitVec.ofInt 64 (R : Int)).toNat : Int) = _
  rw [hx, BitVec.ofInt_natCast, BitVec.toNat_or, BitVec.toNat_ofNat, BitVec.toNat_ofNat, Nat.mod_eq_of_lt (by omega), Nat.mod_eq_of_lt (by omega), hj]
  rw [IntWalk.i64_in _ (by omega)]
  omega
theorem tb_bd (l q : Int) (h0 : 0 ≤ q) (h1 : q ≤ 3) : 0 ≤ tb l q ∧ tb l q ≤ 3 := by
  unfold tb
  repeat' split
  all_goals omega
theorem or1024' (t r : Int) (h0 : 0 ≤ t) (h1 : t ≤ 3) (r0 : 0 ≤ r) (r1 : r < 1024) : bits .or .i64 (t * 1024) r = 1024 * t + r := by
  rw [show t * 1024 = 1024 * t from by omega]; exact or1024 t r h0 h1 r0 r1
def cellsT : List Value := [.int .i64 0, .int .i64 0, .int .i64 1, .int .i64 1, .int .i64 0, .int .i64 1, .int .i64 0, .int .i64 1, .int .i64 0, .int .i64 0, .int .i64 0, .int .i64 0, .int .i64 1, .int .i64 1, .int .i64 1, .int .i64 1, .int .i64 0, .int .i64 1, .int .i64 2, .int .i64 3]
theorem cellT (l q : Int) (hl0 : 0 ≤ l) (hl1 : l ≤ 4) (hq0 : 0 ≤ q) (hq1 : q ≤ 3) : cellsT[l.toNat * 4 + q.toNat]? = some (.int .i64 (tb l q)) := by
  have e : l = 0 ∨ l = 1 ∨ l = 2 ∨ l = 3 ∨ l = 4 := by omega
  have f : q = 0 ∨ q = 1 ∨ q = 2 ∨ q = 3 := by omega
  rcases e with rfl | rfl | rfl | rfl | rfl <;> rcases f with rfl | rfl | rfl | rfl <;> rfl
theorem and19i (i : Int) (h0 : 0 ≤ i) (h1 : i < 32) : (bits .and .i64 i 19 == 16) = decide (i = 16 ∨ i = 20 ∨ i = 24 ∨ i = 28) := by
  obtain ⟨n, rfl⟩ := Int.eq_ofNat_of_zero_le h0
  rw [and19 n (by omega)]
  exact decide_eq_decide.2 (by omega)
theorem ret2 {a b c : Int} (h : a = b) : Ending.returned (.tuple #[.int .i64 a, .int .i64 c]) = .returned (.tuple #[.int .i64 b, .int .i64 c]) := by rw [h]
end Go.Proofs.Ytbimklogfaihlaa
