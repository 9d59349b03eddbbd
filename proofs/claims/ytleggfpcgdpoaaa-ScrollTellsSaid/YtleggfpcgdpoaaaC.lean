/- The contracts of package scroll's closures: Step, Addr, Write, Down. -/
import Derived.Test.YtleggfpcgdpoaaaW
namespace Go.Proofs.Ytleggfpcgdpoaaa
open Go.ChangeShapes Go.WideShapes Go.ChangeAt Go.RowKit
/-- block C holds a captured bool -/
def Bit (w : World) (C : Nat) (n : Bool) : Prop := w.heap[C]? = some (.cells #[.bool n] 4 (0, 0))
theorem cl_step (B C : Nat) (v t x v' : Int) (b n : Bool) (w : World) (h : Row4 w B v t x b) (hC : Bit w C n) (v0 : 0 ≤ v) (v1 : v ≤ 32767) (hr : v' = (v + if n then 32 else 1) % 32768) :
    Calls Try.prog 39 #[.pointer (some ⟨B, 0, none⟩), .pointer (some ⟨C, 0, none⟩)] w fun e w' => e = .returned (.tuple #[]) ∧ Did w w' B v' t x b := by
  have hB := h
  have hc := cells_of h
  have hf := frozen_of h
  have ho := cells_of hC
  subst hr
  cases n
  · have f1 : bits .and .u16 (v + 1) 32767 = (v + 1) % 32768 := m32767.and (v + 1) (by omega) (by omega)
    go_enter Try.func39, Try.ntmps39
    go_wp2
    exact bodyPost_end (v := .tuple #[]) (by simp [results, Try.results39, go_sem]) rfl ⟨rfl, heap_setCell_same w B 0 _ 24 _ hB, (Chg.refl w B).set 0 _⟩
  · have f1 : bits .and .u16 (v + 32) 32767 = (v + 32) % 32768 := m32767.and (v + 32) (by omega) (by omega)
    go_enter Try.func39, Try.ntmps39
    go_wp2
    exact bodyPost_end (v := .tuple #[]) (by simp [results, Try.results39, go_sem]) rfl ⟨rfl, heap_setCell_same w B 0 _ 24 _ hB, (Chg.refl w B).set 0 _⟩
theorem u8_and63 (n : Int) (n0 : 0 ≤ n) (n1 : n ≤ 255) : bits .and .u8 n 63 = n % 64 := by
  obtain ⟨N, rfl⟩ := Int.eq_ofNat_of_zero_le n0
  have := u8_and_nat N 63 (by omega) (by omega)
  rw [nat_mask6] at this
  simpa using this
theorem u8_and7 (n : Int) (n0 : 0 ≤ n) (n1 : n ≤ 255) : bits .and .u8 n 7 = n % 8 := by
  obtain ⟨N, rfl⟩ := Int.eq_ofNat_of_zero_le n0
  have := u8_and_nat N 7 (by omega) (by omega)
  rw [nat_mask3] at this
  simpa using this
theorem cl_addr_hi (B C : Nat) (v t x n t' : Int) (w : World) (h : Row4 w B v t x true) (hC : Oct w C n) (t0 : 0 ≤ t) (t1 : t ≤ 32767) (n0 : 0 ≤ n) (n1 : n ≤ 255) (hr : t' = t - t % 256 + n) :
    Calls Try.prog 28 #[.pointer (some ⟨B, 0, none⟩), .pointer (some ⟨C, 0, none⟩)] w fun e w' => e = .returned (.tuple #[]) ∧ Did w w' B t' t' x false := by
  have hc := cells_of h
  have hf := frozen_of h
  have ho := cells_of hC
  have f2 : bits .and .u16 n 255 = n := by
    rw [show (255 : Int) = ((255 : Nat) : Int) from rfl, m255.and _ (by omega) (by omega)]
    omega
  have f3 := m255.put t n t0 (by omega) (by omega) (by omega)
  rw [show n % 256 = n from by omega] at f3
  subst hr
  go_enter Try.func28, Try.ntmps28
  go_wp2_with fail
  go_still_tail 5, (by kernel_rfl)
  change wpList _ _ _ _ _ w.drew
  have h2 : Row4 w.drew B v t x true := h
  have hc2 := cells_of h2
  have hf2 := frozen_of h2
  have hd : Chg w w.drew B := (Chg.refl w B).drew
  generalize w.drew = w2 at h2 hc2 hf2 hd
  go_wp2_with (go_at_call 29; refine (put_any B 1 t 255 n _ _ _ w2 (hc2 1) (hf2 1) (m255.andNot t t0 (by omega)) f2 f3).mono ?_; rintro e w3 ⟨rfl, rfl⟩)
  have h3 := heap_setCell_same w2 B 1 _ 24 (.int .u16 (t - t % 256 + n)) h2
  have h4 := heap_setCell_same _ B 0 _ 24 (.int .u16 (t - t % 256 + n)) h3
  have h5 := heap_setCell_same _ B 3 _ 24 (.bool false) h4
  exact bodyPost_end (v := .tuple #[]) (by simp [results, Try.results28, go_sem]) rfl ⟨rfl, h5, ((hd.set 1 _).set 0 _).set 3 _⟩
theorem cl_addr_lo (B C : Nat) (v t x n t' : Int) (w : World) (h : Row4 w B v t x false) (hC : Oct w C n) (t0 : 0 ≤ t) (t1 : t ≤ 32767) (n0 : 0 ≤ n) (n1 : n ≤ 255) (hr : t' = t - 256 * (t / 256 % 128) + 256 * (n % 64)) :
    Calls Try.prog 28 #[.pointer (some ⟨B, 0, none⟩), .pointer (some ⟨C, 0, none⟩)] w fun e w' => e = .returned (.tuple #[]) ∧ Did w w' B v t' x true := by
  have hc := cells_of h
  have hf := frozen_of h
  have ho := cells_of hC
  have f1 := u8_and63 n n0 n1
  have f2 : bits .and .u16 (n % 64 * 256) 32512 = 256 * (n % 64) := by
    rw [show (32512 : Int) = ((32512 : Nat) : Int) from rfl, m32512.and _ (by omega) (by omega)]
    omega
  have f3 := m32512.put t (n % 64 * 256) t0 (by omega) (by omega) (by omega)
  rw [show 256 * (n % 64 * 256 / 256 % 128) = 256 * (n % 64) from by omega] at f3
  subst hr
  go_enter Try.func28, Try.ntmps28
  go_wp2_with fail
  go_still_tail 7, (by kernel_rfl)
  change wpList _ _ _ _ _ w.drew
  have h2 : Row4 w.drew B v t x false := h
  have hc2 := cells_of h2
  have hf2 := frozen_of h2
  have hd : Chg w w.drew B := (Chg.refl w B).drew
  generalize w.drew = w2 at h2 hc2 hf2 hd
  go_wp2_with (go_at_call 29; refine (put_any B 1 t 32512 (n % 64 * 256) _ _ _ w2 (hc2 1) (hf2 1) (m32512.andNot t t0 (by omega)) f2 f3).mono ?_; rintro e w3 ⟨rfl, rfl⟩)
  have h3 := heap_setCell_same w2 B 1 _ 24 (.int .u16 (t - 256 * (t / 256 % 128) + 256 * (n % 64))) h2
  have h5 := heap_setCell_same _ B 3 _ 24 (.bool true) h3
  exact bodyPost_end (v := .tuple #[]) (by simp [results, Try.results28, go_sem]) rfl ⟨rfl, h5, (hd.set 1 _).set 3 _⟩
theorem cl_write_lo (B C : Nat) (v t x n t' : Int) (w : World) (h : Row4 w B v t x false) (hC : Oct w C n) (t0 : 0 ≤ t) (t1 : t ≤ 32767) (n0 : 0 ≤ n) (n1 : n ≤ 255) (hr : t' = t - t % 32 + n / 8) :
    Calls Try.prog 30 #[.pointer (some ⟨B, 0, none⟩), .pointer (some ⟨C, 0, none⟩)] w fun e w' => e = .returned (.tuple #[]) ∧ Did w w' B v t' (n % 8) true := by
  have hc := cells_of h
  have hf := frozen_of h
  have ho := cells_of hC
  have f1 := u8_and7 n n0 n1
  have f2 : bits .and .u16 (n / 8) 31 = n / 8 := by
    rw [show (31 : Int) = ((31 : Nat) : Int) from rfl, m31.and _ (by omega) (by omega)]
    omega
  have f3 := m31.put t (n / 8) t0 (by omega) (by omega) (by omega)
  rw [show n / 8 % 32 = n / 8 from by omega] at f3
  subst hr
  go_enter Try.func30, Try.ntmps30
  go_wp2_with fail
  go_still_tail 6, (by kernel_rfl)
  change wpList _ _ _ _ _ w.drew
  have h2 : Row4 w.drew B v t x false := h
  have hc2 := cells_of h2
  have hf2 := frozen_of h2
  have hd : Chg w w.drew B := (Chg.refl w B).drew
  have ho2 := cells_of (show Oct w.drew C n from hC)
  generalize w.drew = w2 at h2 hc2 hf2 hd ho2
  go_wp2_with (go_at_call 29; refine (put_any B 1 t 31 (n / 8) _ _ _ w2 (hc2 1) (hf2 1) (m31.andNot t t0 (by omega)) f2 f3).mono ?_; rintro e w3 ⟨rfl, rfl⟩)
  have h3 := heap_setCell_same w2 B 1 _ 24 (.int .u16 (t - t % 32 + n / 8)) h2
  have h4 := heap_setCell_same _ B 2 _ 24 (.int .u8 (n % 8)) h3
  have h5 := heap_setCell_same _ B 3 _ 24 (.bool true) h4
  exact bodyPost_end (v := .tuple #[]) (by simp [results, Try.results30, go_sem]) rfl ⟨rfl, h5, ((hd.set 1 _).set 2 _).set 3 _⟩
theorem cl_write_hi (B C : Nat) (v t x n t' : Int) (w : World) (h : Row4 w B v t x true) (hC : Oct w C n) (hne : C ≠ B) (t0 : 0 ≤ t) (t1 : t ≤ 32767) (n0 : 0 ≤ n) (n1 : n ≤ 255)
    (hr : t' = t - 32 * (t / 32 % 32) + 32 * (n / 8) - 4096 * (t / 4096 % 8) + 4096 * (n % 8)) :
    Calls Try.prog 30 #[.pointer (some ⟨B, 0, none⟩), .pointer (some ⟨C, 0, none⟩)] w fun e w' => e = .returned (.tuple #[]) ∧ Did w w' B v t' x false := by
  have hc := cells_of h
  have hf := frozen_of h
  have ho := cells_of hC
  have f2 : bits .and .u16 (n / 8 * 32) 992 = 32 * (n / 8) := by
    rw [show (992 : Int) = ((992 : Nat) : Int) from rfl, m992.and _ (by omega) (by omega)]
    omega
  have f3 := m992.put t (n / 8 * 32) t0 (by omega) (by omega) (by omega)
  rw [show 32 * (n / 8 * 32 / 32 % 32) = 32 * (n / 8) from by omega] at f3
  obtain ⟨s, hs⟩ : ∃ s, t - 32 * (t / 32 % 32) + 32 * (n / 8) = s := ⟨_, rfl⟩
  have s0 : 0 ≤ s := by omega
  have s1 : s ≤ 32767 := by omega
  have hw : IntKind.u16.wrap (n * 2 ^ 12) = n * 4096 % 65536 := IntKind.wrap_u16 _
  have g2 : bits .and .u16 (n * 4096 % 65536) 28672 = 4096 * (n % 8) := by
    rw [show (28672 : Int) = ((28672 : Nat) : Int) from rfl, m28672.and _ (by omega) (by omega)]
    omega
  have g3 := m28672.put s (n * 4096 % 65536) s0 (by omega) (by omega) (by omega)
  rw [show 4096 * (n * 4096 % 65536 / 4096 % 8) = 4096 * (n % 8) from by omega] at g3
  rw [hs] at f3
  have hr' : t' = s - 4096 * (s / 4096 % 8) + 4096 * (n % 8) := by omega
  clear hr
  subst hr'
  go_enter Try.func30, Try.ntmps30
  go_wp2_with fail
  go_still_tail 7, (by kernel_rfl)
  change wpList _ _ _ _ _ w.drew
  have h2 : Row4 w.drew B v t x true := h
  have hc2 := cells_of h2
  have hf2 := frozen_of h2
  have hd : Chg w w.drew B := (Chg.refl w B).drew
  have hC2 : Oct w.drew C n := hC
  generalize w.drew = w2 at h2 hc2 hf2 hd hC2
  go_wp2_with (go_at_call 29; refine (put_any B 1 t 992 (n / 8 * 32) _ _ _ w2 (hc2 1) (hf2 1) (m992.andNot t t0 (by omega)) f2 f3).mono ?_; rintro e w3 ⟨rfl, rfl⟩)
  have h3 := heap_setCell_same w2 B 1 _ 24 (.int .u16 s) h2
  have hC3 := (heap_setCell_other w2 ⟨B, 1, none⟩ C (.int .u16 s) hne).trans hC2
  have hd3 : Chg w (w2.setCell ⟨B, 1, none⟩ (.int .u16 s)) B := hd.set 1 _
  have h3' : Row4 (w2.setCell ⟨B, 1, none⟩ (.int .u16 s)) B v s x true := h3
  have hC3' : Oct (w2.setCell ⟨B, 1, none⟩ (.int .u16 s)) C n := hC3
  clear hc2 hf2 h2 hC2 h3 hC3
  generalize w2.setCell ⟨B, 1, none⟩ (.int .u16 s) = w3 at h3' hC3' hd3
  have ho3 := cells_of hC3'
  go_still_tail 6, (by kernel_rfl)
  change wpList _ _ _ _ _ w3.drew
  have h4 : Row4 w3.drew B v s x true := h3'
  have hc4 := cells_of h4
  have hf4 := frozen_of h4
  have hd4 : Chg w w3.drew B := hd3.drew
  generalize w3.drew = w4 at h4 hc4 hf4 hd4
  go_wp2_with (go_at_call 29; refine (put_any B 1 s 28672 (n * 4096 % 65536) _ _ _ w4 (hc4 1) (hf4 1) (m28672.andNot s s0 (by omega)) g2 g3).mono ?_; rintro e w5 ⟨rfl, rfl⟩)
  have h5 := heap_setCell_same w4 B 1 _ 24 (.int .u16 (s - 4096 * (s / 4096 % 8) + 4096 * (n % 8))) h4
  have h6 := heap_setCell_same _ B 3 _ 24 (.bool false) h5
  exact bodyPost_end (v := .tuple #[]) (by simp [results, Try.results30, go_sem]) rfl ⟨rfl, h6, (hd4.set 1 _).set 3 _⟩
/-- one dot down -/
def dn (v : Int) : Int :=
  if v / 4096 < 7 then v + 4096 else if v / 32 % 32 = 29 then v - 28672 - 928 + (2048 - 4096 * (v / 2048 % 2)) else if v / 32 % 32 = 31 then v - 28672 - 992 else v - 28672 + 32
theorem cl_down (B : Nat) (v t x v' : Int) (b : Bool) (w : World) (h : Row4 w B v t x b) (v0 : 0 ≤ v) (v1 : v ≤ 32767) (hr : v' = dn v) :
    Calls Try.prog 34 #[.pointer (some ⟨B, 0, none⟩)] w fun e w' => e = .returned (.tuple #[]) ∧ Did w w' B v' t x b := by
  have hB := h
  have hc := cells_of h
  have hf := frozen_of h
  unfold dn at hr
  have f1 : bits .and .u16 v 28672 = 4096 * (v / 4096 % 8) := m28672.and v v0 (by omega)
  have q1 : IntKind.u16.wrap (v / 2 ^ 5) = v / 32 := by rw [IntWalk.u16_in _ (by omega)]; rfl
  by_cases h7 : v / 4096 < 7
  · rw [if_pos h7] at hr
    have hq : (4096 * (v / 4096 % 8) == 28672) = false := by simp; omega
    subst hr
    go_enter Try.func34, Try.ntmps34
    go_wp2
    exact bodyPost_ret (v := .tuple #[]) (by simp [results, Try.results34, go_sem]) rfl ⟨rfl, heap_setCell_same w B 0 _ 24 _ hB, (Chg.refl w B).set 0 _⟩
  · rw [if_neg h7] at hr
    rw [show 4096 * (v / 4096 % 8) = 28672 from by omega] at f1
    have f2 : bits .andNot .u16 v 28672 = v - 28672 := by
      have q := m28672.andNot v v0 (by omega)
      rw [show 4096 * (v / 4096 % 8) = 28672 from by omega] at q
      exact q
    obtain ⟨s, hs⟩ : ∃ s, v - 28672 = s := ⟨_, rfl⟩
    rw [hs] at f2
    have s0 : 0 ≤ s := by omega
    have s1 : s ≤ 4095 := by omega
    have f3 : bits .and .u16 (s / 32) 31 = s / 32 % 32 := m31.and (s / 32) (by omega) (by omega)
    by_cases h29 : v / 32 % 32 = 29
    · rw [if_pos h29] at hr
      rw [show s / 32 % 32 = 29 from by omega] at f3
      have f4 : bits .xor .u16 s 2048 = s - 2048 * (s / 2048 % 2) + (2048 - 2048 * (s / 2048 % 2)) := m2048.xor s s0 (by omega)
      obtain ⟨u, hu⟩ : ∃ u, s - 2048 * (s / 2048 % 2) + (2048 - 2048 * (s / 2048 % 2)) = u := ⟨_, rfl⟩
      rw [hu] at f4
      have p3 := (m992.put u 0 (by omega) (by omega) (by omega) (by omega)).trans (show _ = v' from by omega)
      clear hr
      go_enter Try.func34, Try.ntmps34
      have h3 := heap_setCell_same w B 0 _ 24 (.int .u16 s) h
      have h4 := heap_setCell_same _ B 0 _ 24 (.int .u16 u) h3
      go_wp2_with (go_at_call 29; refine (put_any B 0 u 992 0 _ _ _ _ (cells_of h4 0) (frozen_of h4 0) (m992.andNot u (by omega) (by omega)) (m992.and 0 (by omega) (by omega)) p3).mono ?_; rintro e w3 ⟨rfl, rfl⟩)
      have h5 := heap_setCell_same _ B 0 _ 24 (.int .u16 v') h4
      exact bodyPost_end (v := .tuple #[]) (by simp [results, Try.results34, go_sem]) rfl ⟨rfl, h5, (((Chg.refl w B).set 0 _).set 0 _).set 0 _⟩
    · rw [if_neg h29] at hr
      by_cases h31 : v / 32 % 32 = 31
      · rw [if_pos h31] at hr
        rw [show s / 32 % 32 = 31 from by omega] at f3
        have p3 := (m992.put s 0 (by omega) (by omega) (by omega) (by omega)).trans (show _ = v' from by omega)
        clear hr
        go_enter Try.func34, Try.ntmps34
        have h3 := heap_setCell_same w B 0 _ 24 (.int .u16 s) h
        go_wp2_with (go_at_call 29; refine (put_any B 0 s 992 0 _ _ _ _ (cells_of h3 0) (frozen_of h3 0) (m992.andNot s (by omega) (by omega)) (m992.and 0 (by omega) (by omega)) p3).mono ?_; rintro e w3 ⟨rfl, rfl⟩)
        have h5 := heap_setCell_same _ B 0 _ 24 (.int .u16 v') h3
        exact bodyPost_end (v := .tuple #[]) (by simp [results, Try.results34, go_sem]) rfl ⟨rfl, h5, ((Chg.refl w B).set 0 _).set 0 _⟩
      · rw [if_neg h31] at hr
        obtain ⟨y, hy⟩ : ∃ y, s / 32 % 32 = y := ⟨_, rfl⟩
        rw [hy] at f3
        have y0 : 0 ≤ y := by omega
        have y1 : y ≤ 30 := by omega
        have yb : (y == 29) = false := by simp; omega
        have yc : (y == 31) = false := by simp; omega
        have q2 : IntKind.u16.wrap ((y + 1) * 2 ^ 5) = (y + 1) * 32 := by rw [IntWalk.u16_in _ (by omega)]; rfl
        have p3 := (m992.put s ((y + 1) * 32) (by omega) (by omega) (by omega) (by omega)).trans (show _ = v' from by omega)
        clear hr
        go_enter Try.func34, Try.ntmps34
        have h3 := heap_setCell_same w B 0 _ 24 (.int .u16 s) h
        go_wp2_with (go_at_call 29; refine (put_any B 0 s 992 ((y + 1) * 32) _ _ _ _ (cells_of h3 0) (frozen_of h3 0) (m992.andNot s (by omega) (by omega)) (m992.and _ (by omega) (by omega)) p3).mono ?_; rintro e w3 ⟨rfl, rfl⟩)
        have h5 := heap_setCell_same _ B 0 _ 24 (.int .u16 v') h3
        exact bodyPost_end (v := .tuple #[]) (by simp [results, Try.results34, go_sem]) rfl ⟨rfl, h5, ((Chg.refl w B).set 0 _).set 0 _⟩
end Go.Proofs.Ytleggfpcgdpoaaa
