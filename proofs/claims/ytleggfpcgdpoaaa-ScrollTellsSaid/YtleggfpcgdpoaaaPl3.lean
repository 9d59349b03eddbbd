/- Plain: two numbers that a mask lets through alike; so many tiles to the right, so many dots down. -/
import Derived.Test.YtleggfpcgdpoaaaPl2
namespace Go.Proofs.Ytleggfpcgdpoaaa
open Go.RowKit
set_option linter.unusedVariables false
theorem Mask.same {m : Nat} {f : Int → Int} (h : Mask m f) (r v : Int) (r0 : 0 ≤ r) (r1 : r ≤ 65535) (v0 : 0 ≤ v) (v1 : v ≤ 65535) (e : f r = f v) : bits .and .u16 (bits .xor .u16 r v) (m : Int) = 0 := by
  obtain ⟨R, rfl, hR⟩ := u16_nat r r0 r1
  obtain ⟨V, rfl, hV⟩ := u16_nat v v0 v1
  have e2 : R &&& m = V &&& m := by
    have := h.2 R hR
    have := h.2 V hV
    omega
  have hx : R ^^^ V < 2 ^ 16 := Nat.xor_lt_two_pow hR hV
  rw [u16_xor_nat R V hR hV, u16_and_nat _ m hx h.1, Nat.and_xor_distrib_right, e2, Nat.xor_self]
  rfl
/-- so many tiles to the right of a number -/
def rs (a b h k f : Int) (i : Nat) : Int := pt ((a + i) % 32) b ((h + (a + i) / 32) % 2) k f
/-- so many dots down -/
def ds (a b h k : Int) (i : Nat) : Int := pt a ((8 * b + i) % 240 / 8) h ((k + (8 * b + i) / 240) % 2) ((8 * b + i) % 8)
theorem rs_five {a b h k f : Int} (s : Five a b h k f) (i : Nat) : Five ((a + i) % 32) b ((h + (a + i) / 32) % 2) k f :=
  ⟨by omega, s.hb, by omega, s.hk, s.hf⟩
theorem ds_five {a b h k f : Int} (s : Five a b h k f) (i : Nat) : Five a ((8 * b + i) % 240 / 8) h ((k + (8 * b + i) / 240) % 2) ((8 * b + i) % 8) :=
  ⟨s.ha, by omega, s.hh, by omega, by omega⟩
theorem rs_next {a b h k f : Int} (s : Five a b h k f) (i : Nat) : rt (rs a b h k f i) = rs a b h k f (i + 1) := by
  have ⟨a0, a1⟩ := s.ha
  have ⟨h0, h1⟩ := s.hh
  unfold rs
  rw [rt_pt (rs_five s i)]
  by_cases q : (a + (i : Int)) % 32 = 31
  · rw [if_pos q]
    congr 1
    · push_cast
      omega
    · push_cast
      omega
  · rw [if_neg q]
    congr 1
    · push_cast
      omega
    · push_cast
      omega
theorem ds_next {a b h k f : Int} (s : Five a b h k f) (i : Nat) : dn (ds a b h k i) = ds a b h k (i + 1) := by
  unfold ds
  rw [dn_pt (ds_five s i)]
  push_cast
  by_cases q : (8 * b + (i : Int)) % 8 < 7
  · rw [if_pos q]
    congr 1 <;> omega
  · rw [if_neg q]
    by_cases q2 : (8 * b + (i : Int)) % 240 / 8 = 29
    · rw [if_pos q2]
      congr 1 <;> omega
    · rw [if_neg q2, if_neg (by omega)]
      congr 1 <;> omega
theorem rs_zero {a b h k f : Int} (s : Five a b h k f) : rs a b h k f 0 = pt a b h k f := by
  obtain ⟨ha, _, hh, _, _⟩ := s
  unfold rs
  congr 1 <;> omega
theorem ds_zero {a b h k : Int} (s : Five a b h k 0) (hb : b ≤ 29) : ds a b h k 0 = pt a b h k 0 := by
  obtain ⟨_, hb', _, hk, _⟩ := s
  unfold ds
  congr 1 <;> omega
theorem rs_64 {a b h k f : Int} (s : Five a b h k f) (i : Nat) (hi : (i : Int) % 64 = 0) : rs a b h k f i = pt a b h k f := by
  obtain ⟨ha, _, hh, _, _⟩ := s
  unfold rs
  congr 1 <;> omega
theorem rs_32 {a b h k f : Int} (s : Five a b h k f) (i : Nat) (hi : (i : Int) % 64 = 32) : rs a b h k f i = pt a b (1 - h) k f := by
  obtain ⟨ha, _, hh, _, _⟩ := s
  unfold rs
  congr 1 <;> omega
theorem ds_240 {a b h k : Int} (s : Five a b h k 0) (hb : b ≤ 29) : ds a b h k 240 = pt a b h (1 - k) 0 := by
  obtain ⟨_, hb', _, hk, _⟩ := s
  unfold ds
  congr 1 <;> omega
theorem ds_480 {a b h k : Int} (s : Five a b h k 0) (hb : b ≤ 29) : ds a b h k 480 = pt a b h k 0 := by
  obtain ⟨_, hb', _, hk, _⟩ := s
  unfold ds
  congr 1 <;> omega
theorem xor1024 {a b h k f : Int} (s : Five a b h k f) : bits .xor .u16 (pt a b h k f) 1024 = pt a b (1 - h) k f := by
  obtain ⟨p0, p1⟩ := pt_bd s
  obtain ⟨_, _, q3, _, _⟩ := pt_parts s
  refine (m1024.xor _ p0 (by omega)).trans ?_
  show pt a b h k f - 1024 * (pt a b h k f / 1024 % 2) + (1024 - 1024 * (pt a b h k f / 1024 % 2)) = _
  rw [q3]
  unfold pt
  omega
theorem xor2048 {a b h k f : Int} (s : Five a b h k f) : bits .xor .u16 (pt a b h k f) 2048 = pt a b h (1 - k) f := by
  obtain ⟨p0, p1⟩ := pt_bd s
  obtain ⟨_, _, _, q4, _⟩ := pt_parts s
  refine (m2048.xor _ p0 (by omega)).trans ?_
  show pt a b h k f - 2048 * (pt a b h k f / 2048 % 2) + (2048 - 2048 * (pt a b h k f / 2048 % 2)) = _
  rw [q4]
  unfold pt
  omega
/-- where ScrollAround starts -/
theorem around_start (n : Int) (n0 : 0 ≤ n) (n1 : n ≤ 65535) : ∃ a b h k : Int, n % 4096 = pt a b h k 0 ∧ Five a b h k 0 :=
  ⟨n % 32, n / 32 % 32, n / 1024 % 2, n / 2048 % 2, by unfold pt; omega, ⟨by omega, by omega⟩, ⟨by omega, by omega⟩, ⟨by omega, by omega⟩, ⟨by omega, by omega⟩, ⟨by omega, by omega⟩⟩
end Go.Proofs.Ytleggfpcgdpoaaa
