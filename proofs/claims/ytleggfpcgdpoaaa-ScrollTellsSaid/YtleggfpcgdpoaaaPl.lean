/- Plain facts on the bits of a scroll's numbers. No program in sight, but for the model's own word 'bits'. -/
import Derived.WalkKit
import Derived.ProofKit
import Derived.Laws.BitsAllLaws
namespace Go.Proofs.Ytleggfpcgdpoaaa
open Go.RowKit
theorem mask_shift (i k A : Nat) : A &&& (2 ^ i * (2 ^ k - 1)) = 2 ^ i * (A / 2 ^ i % 2 ^ k) := by
  apply Nat.eq_of_testBit_eq
  intro j
  rw [Nat.testBit_and, Nat.testBit_two_pow_mul, Nat.testBit_two_pow_mul, Nat.testBit_two_pow_sub_one, Nat.testBit_mod_two_pow, Nat.testBit_div_two_pow]
  by_cases h : i ≤ j
  · rw [show j - i + i = j from by omega]
    simp [h, Bool.and_comm]
  · simp [h]
theorem or_add (x y : Nat) (h : x &&& y = 0) : x ||| y = x + y := by
  induction x using Nat.strongRecOn generalizing y with
  | ind x ih =>
    by_cases hx : x = 0
    · subst hx
      simp
    · have hd : (x / 2) &&& (y / 2) = 0 := by rw [← Nat.and_div_two, h]
      have q := ih (x / 2) (by omega) (y / 2) hd
      have e1 := Nat.or_div_two (a := x) (b := y)
      have m := Nat.or_mod_two_eq_one (a := x) (b := y)
      have a := Nat.and_mod_two_eq_one (a := x) (b := y)
      rw [h] at a
      omega
theorem and_split (n m : Nat) (hm : m < 65536) (hn : n < 65536) : (n &&& (65535 - m)) + (n &&& m) = n := by
  have ht : ∀ i, (65535 - m).testBit i = (decide (i < 16) && !m.testBit i) := fun i => by
    have := Nat.testBit_two_pow_sub_succ (x := m) (n := 16) hm i
    rw [← this]
    congr 1
    omega
  have hbig : ∀ i, ¬ i < 16 → n.testBit i = false := fun i hi =>
    Nat.testBit_lt_two_pow (Nat.lt_of_lt_of_le hn (by have := Nat.pow_le_pow_right (n := 2) (by omega) (Nat.le_of_not_lt hi); omega))
  rw [← or_add]
  · apply Nat.eq_of_testBit_eq
    intro i
    rw [Nat.testBit_or, Nat.testBit_and, Nat.testBit_and, ht]
    by_cases hi : i < 16
    · cases n.testBit i <;> cases m.testBit i <;> simp [hi]
    · simp [hbig i hi]
  · apply Nat.eq_of_testBit_eq
    intro i
    rw [Nat.testBit_and, Nat.testBit_and, Nat.testBit_and, ht, Nat.zero_testBit]
    cases n.testBit i <;> cases m.testBit i <;> simp
theorem u16_nat (a : Int) (h0 : 0 ≤ a) (h1 : a ≤ 65535) : ∃ n : Nat, a = n ∧ n < 65536 := ⟨a.toNat, by omega, by omega⟩
/-- what a mask lets through, as arithmetic -/
def Mask (m : Nat) (f : Int → Int) : Prop := m < 65536 ∧ ∀ n : Nat, n < 65536 → ((n &&& m : Nat) : Int) = f n
theorem Mask.bd {m : Nat} {f : Int → Int} (h : Mask m f) (n : Int) (n0 : 0 ≤ n) (n1 : n ≤ 65535) : 0 ≤ f n ∧ f n ≤ n := by
  obtain ⟨N, rfl, hN⟩ := u16_nat n n0 n1
  have := h.2 N hN
  have hle : N &&& m ≤ N := Nat.and_le_left
  omega
theorem Mask.and {m : Nat} {f : Int → Int} (h : Mask m f) (n : Int) (n0 : 0 ≤ n) (n1 : n ≤ 65535) : bits .and .u16 n (m : Int) = f n := by
  obtain ⟨N, rfl, hN⟩ := u16_nat n n0 n1
  rw [u16_and_nat N m hN h.1, h.2 N hN]
theorem Mask.andNot {m : Nat} {f : Int → Int} (h : Mask m f) (n : Int) (n0 : 0 ≤ n) (n1 : n ≤ 65535) : bits .andNot .u16 n (m : Int) = n - f n := by
  obtain ⟨N, rfl, hN⟩ := u16_nat n n0 n1
  rw [u16_andNot_nat N m hN h.1, ← h.2 N hN]
  have := and_split N m h.1 hN
  omega
theorem Mask.put {m : Nat} {f : Int → Int} (h : Mask m f) (n v : Int) (n0 : 0 ≤ n) (n1 : n ≤ 65535) (v0 : 0 ≤ v) (v1 : v ≤ 65535) : bits .or .u16 (n - f n) (f v) = n - f n + f v := by
  obtain ⟨N, rfl, hN⟩ := u16_nat n n0 n1
  obtain ⟨V, rfl, hV⟩ := u16_nat v v0 v1
  have hs := and_split N m h.1 hN
  have hle : V &&& m ≤ V := Nat.and_le_left
  have hle2 : N &&& (65535 - m) ≤ N := Nat.and_le_left
  have hz : (N &&& (65535 - m)) &&& (V &&& m) = 0 := by
    have ht : ∀ i, (65535 - m).testBit i = (decide (i < 16) && !m.testBit i) := fun i => by
      have := Nat.testBit_two_pow_sub_succ (x := m) (n := 16) h.1 i
      rw [← this]
      congr 1
      omega
    apply Nat.eq_of_testBit_eq
    intro i
    rw [Nat.testBit_and, Nat.testBit_and, Nat.testBit_and, ht, Nat.zero_testBit]
    cases N.testBit i <;> cases V.testBit i <;> cases m.testBit i <;> simp
  rw [← h.2 N hN, ← h.2 V hV, show ((N : Int) - ((N &&& m : Nat) : Int)) = ((N &&& (65535 - m) : Nat) : Int) from by omega, u16_or_nat _ _ (by omega) (by omega), or_add _ _ hz]
  omega
theorem Mask.xor {m : Nat} {f : Int → Int} (h : Mask m f) (n : Int) (n0 : 0 ≤ n) (n1 : n ≤ 65535) : bits .xor .u16 n (m : Int) = n - f n + ((m : Int) - f n) := by
  obtain ⟨N, rfl, hN⟩ := u16_nat n n0 n1
  rw [u16_xor_nat N m hN h.1, ← h.2 N hN]
  have hs := and_split N m h.1 hN
  have hs2 := and_split m N hN h.1
  rw [Nat.and_comm m N] at hs2
  have ht : ∀ k : Nat, k < 65536 → ∀ i, (65535 - k).testBit i = (decide (i < 16) && !k.testBit i) := fun k hk i => by
    have := Nat.testBit_two_pow_sub_succ (x := k) (n := 16) hk i
    rw [← this]
    congr 1
    omega
  have hbig : ∀ k : Nat, k < 65536 → ∀ i, ¬ i < 16 → k.testBit i = false := fun k hk i hi =>
    Nat.testBit_lt_two_pow (Nat.lt_of_lt_of_le hk (by have := Nat.pow_le_pow_right (n := 2) (by omega) (Nat.le_of_not_lt hi); omega))
  have e : N ^^^ m = (N &&& (65535 - m)) ||| (m &&& (65535 - N)) := by
    apply Nat.eq_of_testBit_eq
    intro i
    rw [Nat.testBit_xor, Nat.testBit_or, Nat.testBit_and, Nat.testBit_and, ht m h.1, ht N hN]
    by_cases hi : i < 16
    · cases N.testBit i <;> cases m.testBit i <;> simp [hi]
    · simp [hbig N hN i hi, hbig m h.1 i hi]
  have hz : (N &&& (65535 - m)) &&& (m &&& (65535 - N)) = 0 := by
    apply Nat.eq_of_testBit_eq
    intro i
    rw [Nat.testBit_and, Nat.testBit_and, Nat.testBit_and, ht m h.1, ht N hN, Nat.zero_testBit]
    cases N.testBit i <;> cases m.testBit i <;> simp
  rw [e, or_add _ _ hz]
  omega
/-- a run of bits -/
theorem mask_run (i k m : Nat) (hm : 2 ^ i * (2 ^ k - 1) = m) (hlt : m < 65536) : Mask m (fun n => 2 ^ i * (n / 2 ^ i % 2 ^ k)) :=
  ⟨hlt, fun n _ => by
    rw [← hm, mask_shift]
    simp⟩
theorem Mask.join {m1 m2 : Nat} {f1 f2 : Int → Int} (h1 : Mask m1 f1) (h2 : Mask m2 f2) (m : Nat) (hm : m1 ||| m2 = m) (hz : m1 &&& m2 = 0) (hlt : m < 65536) : Mask m (fun n => f1 n + f2 n) :=
  ⟨hlt, fun n hn => by
    show _ = f1 n + f2 n
    rw [← h1.2 n hn, ← h2.2 n hn, ← hm, Nat.and_or_distrib_left, or_add]
    · omega
    · rw [Nat.and_assoc, ← Nat.and_assoc m1 n m2, Nat.and_comm m1 n, Nat.and_assoc n m1 m2, hz, Nat.and_zero, Nat.and_zero]⟩
theorem m31 : Mask 31 (fun n => n % 32) := by
  have h := mask_run 0 5 31 rfl (by omega)
  refine ⟨h.1, fun n hn => ?_⟩
  rw [h.2 n hn]
  simp
theorem m255 : Mask 255 (fun n => n % 256) := by
  have h := mask_run 0 8 255 rfl (by omega)
  refine ⟨h.1, fun n hn => ?_⟩
  rw [h.2 n hn]
  simp
theorem m1024 : Mask 1024 (fun n => 1024 * (n / 1024 % 2)) := mask_run 10 1 1024 rfl (by omega)
theorem m2048 : Mask 2048 (fun n => 2048 * (n / 2048 % 2)) := mask_run 11 1 2048 rfl (by omega)
theorem m3072 : Mask 3072 (fun n => 1024 * (n / 1024 % 4)) := mask_run 10 2 3072 rfl (by omega)
theorem m992 : Mask 992 (fun n => 32 * (n / 32 % 32)) := mask_run 5 5 992 rfl (by omega)
theorem m28672 : Mask 28672 (fun n => 4096 * (n / 4096 % 8)) := mask_run 12 3 28672 rfl (by omega)
theorem m32512 : Mask 32512 (fun n => 256 * (n / 256 % 128)) := mask_run 8 7 32512 rfl (by omega)
theorem m30720 : Mask 30720 (fun n => 2048 * (n / 2048 % 16)) := mask_run 11 4 30720 rfl (by omega)
theorem m1055 : Mask 1055 (fun n => n % 32 + 1024 * (n / 1024 % 2)) := m31.join m1024 1055 rfl rfl (by omega)
theorem m31712 : Mask 31712 (fun n => 32 * (n / 32 % 32) + 2048 * (n / 2048 % 16)) := m992.join m30720 31712 rfl rfl (by omega)
theorem m32767 : Mask 32767 (fun n => n % 32768) := by
  have h := mask_run 0 15 32767 rfl (by omega)
  refine ⟨h.1, fun n hn => ?_⟩
  rw [h.2 n hn]
  simp
theorem m4095 : Mask 4095 (fun n => n % 4096) := by
  have h := mask_run 0 12 4095 rfl (by omega)
  refine ⟨h.1, fun n hn => ?_⟩
  rw [h.2 n hn]
  simp
theorem m16383 : Mask 16383 (fun n => n % 16384) := by
  have h := mask_run 0 14 16383 rfl (by omega)
  refine ⟨h.1, fun n hn => ?_⟩
  rw [h.2 n hn]
  simp
end Go.Proofs.Ytleggfpcgdpoaaa
