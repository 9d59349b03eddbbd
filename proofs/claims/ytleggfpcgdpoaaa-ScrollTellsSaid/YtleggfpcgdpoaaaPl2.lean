/- Plain laws on scrolls: a number taken apart, and what is done to it. -/
import Derived.Test.YtleggfpcgdpoaaaD
namespace Go.Proofs.Ytleggfpcgdpoaaa
open Go.RowKit
set_option linter.unusedVariables false
/-- a number put together: coarse X and Y, the screens across and down, fine Y -/
def pt (a b h k f : Int) : Int := a + 32 * b + 1024 * h + 2048 * k + 4096 * f
structure Five (a b h k f : Int) : Prop where
  ha : 0 ≤ a ∧ a ≤ 31
  hb : 0 ≤ b ∧ b ≤ 31
  hh : 0 ≤ h ∧ h ≤ 1
  hk : 0 ≤ k ∧ k ≤ 1
  hf : 0 ≤ f ∧ f ≤ 7
theorem apart (v : Int) (v0 : 0 ≤ v) (v1 : v ≤ 32767) : ∃ a b h k f : Int, v = pt a b h k f ∧ Five a b h k f :=
  ⟨v % 32, v / 32 % 32, v / 1024 % 2, v / 2048 % 2, v / 4096, by unfold pt; omega, ⟨⟨by omega, by omega⟩, ⟨by omega, by omega⟩, ⟨by omega, by omega⟩, ⟨by omega, by omega⟩, ⟨by omega, by omega⟩⟩⟩
theorem pt_bd {a b h k f : Int} (s : Five a b h k f) : 0 ≤ pt a b h k f ∧ pt a b h k f ≤ 32767 := by
  obtain ⟨ha, hb, hh, hk, hf⟩ := s
  unfold pt
  omega
theorem pt_parts {a b h k f : Int} (s : Five a b h k f) : pt a b h k f % 32 = a ∧ pt a b h k f / 32 % 32 = b ∧ pt a b h k f / 1024 % 2 = h ∧ pt a b h k f / 2048 % 2 = k ∧ pt a b h k f / 4096 = f := by
  obtain ⟨ha, hb, hh, hk, hf⟩ := s
  unfold pt
  refine ⟨by omega, by omega, by omega, by omega, by omega⟩
theorem pt_more {a b h k f : Int} (s : Five a b h k f) : pt a b h k f / 1024 % 4 = h + 2 * k ∧ pt a b h k f / 4096 % 8 = f ∧ pt a b h k f / 2048 % 16 = k + 2 * f := by
  obtain ⟨ha, hb, hh, hk, hf⟩ := s
  unfold pt
  refine ⟨by omega, by omega, by omega⟩
theorem wl_pt {a b h k f : Int} (s : Five a b h k f) (p : Int) (p0 : 0 ≤ p) (p1 : p ≤ 255) : wl (pt a b h k f) p = pt (p / 8) b h k f := by
  obtain ⟨q1, _, _, _, _⟩ := pt_parts s
  unfold wl
  rw [q1]
  unfold pt
  omega
theorem wh_pt {a b h k f : Int} (s : Five a b h k f) (p : Int) (p0 : 0 ≤ p) (p1 : p ≤ 255) : wh (pt a b h k f) p = pt a (p / 8) h k (p % 8) := by
  obtain ⟨_, q2, _, _, q5⟩ := pt_parts s
  obtain ⟨_, q6, _⟩ := pt_more s
  unfold wh
  rw [q2, q6]
  unfold pt
  omega
theorem rt_pt {a b h k f : Int} (s : Five a b h k f) : rt (pt a b h k f) = if a = 31 then pt 0 b (1 - h) k f else pt (a + 1) b h k f := by
  obtain ⟨q1, _, q3, _, _⟩ := pt_parts s
  unfold rt
  rw [q1, q3]
  split
  · unfold pt
    omega
  · unfold pt
    omega
theorem dn_pt {a b h k f : Int} (s : Five a b h k f) : dn (pt a b h k f) = if f < 7 then pt a b h k (f + 1) else if b = 29 then pt a 0 h (1 - k) 0 else if b = 31 then pt a 0 h k 0 else pt a (b + 1) h k 0 := by
  obtain ⟨_, q2, _, q4, q5⟩ := pt_parts s
  obtain ⟨ha, hb, hh, hk, hf⟩ := s
  unfold dn
  rw [q2, q4, q5]
  split
  · unfold pt
    omega
  · split
    · unfold pt
      omega
    · split
      · unfold pt
        omega
      · unfold pt
        omega
theorem ac_pt {a b h k f a' b' h' k' f' : Int} (s : Five a b h k f) (s' : Five a' b' h' k' f') : ac (pt a b h k f) (pt a' b' h' k' f') = pt a' b h' k f := by
  obtain ⟨q1, _, q3, _, _⟩ := pt_parts s
  obtain ⟨r1, _, r3, _, _⟩ := pt_parts s'
  unfold ac
  rw [q1, q3, r1, r3]
  unfold pt
  omega
theorem tp_pt {a b h k f a' b' h' k' f' : Int} (s : Five a b h k f) (s' : Five a' b' h' k' f') : tp (pt a b h k f) (pt a' b' h' k' f') = pt a b' h k' f' := by
  obtain ⟨_, q2, _, _, _⟩ := pt_parts s
  obtain ⟨_, r2, _, _, _⟩ := pt_parts s'
  obtain ⟨_, _, q6⟩ := pt_more s
  obtain ⟨_, _, r6⟩ := pt_more s'
  unfold tp
  rw [q2, q6, r2, r6]
  unfold pt
  omega
/-- what ScrollWrites needs -/
theorem writes_plain (v t p q : Int) (v0 : 0 ≤ v) (v1 : v ≤ 32767) (t0 : 0 ≤ t) (t1 : t ≤ 32767) (p0 : 0 ≤ p) (p1 : p ≤ 255) (q0 : 0 ≤ q) (q1 : q ≤ 255) :
    ∃ T, wh (wl t p) q = T ∧ 0 ≤ T ∧ T ≤ 32767 ∧ T % 32 = p / 8 ∧ T / 32 % 32 = q / 8 ∧ T / 4096 = q % 8 ∧ T / 1024 % 4 = t / 1024 % 4 ∧ (0 ≤ wl t p ∧ wl t p ≤ 32767) ∧ (0 ≤ ac v T ∧ ac v T ≤ 32767) ∧ tp (ac v T) T = T := by
  obtain ⟨a, b, h, k, f, rfl, s⟩ := apart t t0 t1
  obtain ⟨a', b', h', k', f', rfl, s'⟩ := apart v v0 v1
  have hp : 0 ≤ p / 8 ∧ p / 8 ≤ 31 := by omega
  have hq : 0 ≤ q / 8 ∧ q / 8 ≤ 31 := by omega
  have hq8 : 0 ≤ q % 8 ∧ q % 8 ≤ 7 := by omega
  have s1 : Five (p / 8) b h k f := ⟨hp, s.hb, s.hh, s.hk, s.hf⟩
  have s2 : Five (p / 8) (q / 8) h k (q % 8) := ⟨hp, hq, s.hh, s.hk, hq8⟩
  have s3 : Five (p / 8) b' h k' f' := ⟨hp, s'.hb, s.hh, s'.hk, s'.hf⟩
  rw [wl_pt s p p0 p1, wh_pt s1 q q0 q1]
  obtain ⟨r1, r2, r3, r4, r5⟩ := pt_parts s2
  obtain ⟨r6, _, _⟩ := pt_more s2
  obtain ⟨s6, _, _⟩ := pt_more s
  obtain ⟨b0, b1⟩ := pt_bd s2
  refine ⟨_, rfl, b0, b1, r1, r2, r5, by rw [r6, s6], pt_bd s1, ?_, ?_⟩
  · rw [ac_pt s' s2]
    exact pt_bd s3
  · rw [ac_pt s' s2, tp_pt s3 s2]
/-- what ScrollApart needs -/
theorem apart_plain (v t : Int) (v0 : 0 ≤ v) (v1 : v ≤ 32767) (t0 : 0 ≤ t) (t1 : t ≤ 32767) :
    ∃ r d rd a p : Int, rt v = r ∧ dn v = d ∧ dn r = rd ∧ rt d = rd ∧ ac v t = a ∧ tp a t = t ∧ tp v t = p ∧ ac p t = t ∧ (0 ≤ r ∧ r ≤ 32767) ∧ (0 ≤ d ∧ d ≤ 32767) ∧ (0 ≤ a ∧ a ≤ 32767) ∧ (0 ≤ p ∧ p ≤ 32767) ∧
      (r / 32 % 32 = v / 32 % 32 ∧ r / 2048 % 16 = v / 2048 % 16) ∧ (d % 32 = v % 32 ∧ d / 1024 % 2 = v / 1024 % 2) := by
  obtain ⟨a, b, h, k, f, rfl, s⟩ := apart v v0 v1
  obtain ⟨a', b', h', k', f', rfl, s'⟩ := apart t t0 t1
  have sa : Five a' b h' k f := ⟨s'.ha, s.hb, s'.hh, s.hk, s.hf⟩
  have sp : Five a b' h k' f' := ⟨s.ha, s'.hb, s.hh, s'.hk, s'.hf⟩
  obtain ⟨a2, h2, hr, s2⟩ : ∃ a2 h2, (∀ b k f, Five a b h k f → rt (pt a b h k f) = pt a2 b h2 k f) ∧ (0 ≤ a2 ∧ a2 ≤ 31) ∧ 0 ≤ h2 ∧ h2 ≤ 1 := by
    have := s.ha
    have := s.hh
    by_cases q : a = 31
    · exact ⟨0, 1 - h, fun b k f s => by rw [rt_pt s, if_pos q], by omega, by omega, by omega⟩
    · exact ⟨a + 1, h, fun b k f s => by rw [rt_pt s, if_neg q], by omega, by omega, by omega⟩
  obtain ⟨b3, k3, f3, hd, b30, k30, f30⟩ : ∃ b3 k3 f3, (∀ a h, Five a b h k f → dn (pt a b h k f) = pt a b3 h k3 f3) ∧ (0 ≤ b3 ∧ b3 ≤ 31) ∧ (0 ≤ k3 ∧ k3 ≤ 1) ∧ (0 ≤ f3 ∧ f3 ≤ 7) := by
    have := s.hb
    have := s.hk
    have := s.hf
    by_cases q : f < 7
    · exact ⟨b, k, f + 1, fun a h s => by rw [dn_pt s, if_pos q], by omega, by omega, by omega⟩
    · by_cases q2 : b = 29
      · exact ⟨0, 1 - k, 0, fun a h s => by rw [dn_pt s, if_neg q, if_pos q2], by omega, by omega, by omega⟩
      · by_cases q3 : b = 31
        · exact ⟨0, k, 0, fun a h s => by rw [dn_pt s, if_neg q, if_neg q2, if_pos q3], by omega, by omega, by omega⟩
        · exact ⟨b + 1, k, 0, fun a h s => by rw [dn_pt s, if_neg q, if_neg q2, if_neg q3], by omega, by omega, by omega⟩
  have sr : Five a2 b h2 k f := ⟨s2.1, s.hb, s2.2, s.hk, s.hf⟩
  have sd : Five a b3 h k3 f3 := ⟨s.ha, b30, s.hh, k30, f30⟩
  obtain ⟨_, e2, _, _, _⟩ := pt_parts s
  obtain ⟨_, _, e6⟩ := pt_more s
  obtain ⟨e1, _, e3, _, _⟩ := pt_parts s
  obtain ⟨_, r2, _, _, _⟩ := pt_parts sr
  obtain ⟨_, _, r6⟩ := pt_more sr
  obtain ⟨d1, _, d3, _, _⟩ := pt_parts sd
  refine ⟨_, _, _, _, _, hr b k f s, hd a h s, hd a2 h2 sr, hr b3 k3 f3 sd, ac_pt s s', tp_pt sa s', tp_pt s s', ac_pt sp s', pt_bd sr, pt_bd sd, pt_bd sa, pt_bd sp, ⟨by rw [r2, e2], by rw [r6, e6]⟩, ⟨by rw [d1, e1], by rw [d3, e3]⟩⟩
end Go.Proofs.Ytleggfpcgdpoaaa
