/- The contracts of package scroll. -/
import Derived.Test.YtleggfpcgdpoaaaRows
import Derived.Test.YtleggfpcgdpoaaaPl
import Derived.OpenShut
import Derived.Below
import Derived.Outline
import Derived.RegionTactic
import Derived.ChangeAlike
import Derived.BigRegion
import Derived.WalkSpells
import Derived.Handy
import Derived.Lib.Hide
import Derived.StillTailTactics
namespace Go.Proofs.Ytleggfpcgdpoaaa
open Go.ChangeShapes Go.WideShapes Go.ChangeAt Go.RowKit
theorem check_ok (v t x : Int) (b : Bool) (w : World) (v1 : v ≤ 32767) (t1 : t ≤ 32767) (x1 : x ≤ 7) :
    Calls Try.prog 8 #[.agg #[.int .u16 v, .int .u16 t, .int .u8 x, .bool b]] w fun e w' => e = .returned (.int .i64 0) ∧ Below w.heap.size w w' := by
  go_enter Try.func8, Try.ntmps8
  go_wp2
  go_ret
  exact ⟨rfl, by go_grown⟩
theorem check_bad (v t x : Int) (b : Bool) (w : World) (h : ¬ (v ≤ 32767 ∧ t ≤ 32767 ∧ x ≤ 7)) :
    Calls Try.prog 8 #[.agg #[.int .u16 v, .int .u16 t, .int .u8 x, .bool b]] w fun e w' => e = .returned (.int .i64 1) ∧ Below w.heap.size w w' := by
  by_cases hv : v ≤ 32767
  · by_cases ht : t ≤ 32767
    · have hx : ¬ x ≤ 7 := fun q => h ⟨hv, ht, q⟩
      go_enter Try.func8, Try.ntmps8
      go_wp2
      go_ret
      exact ⟨rfl, by go_grown⟩
    · go_enter Try.func8, Try.ntmps8
      go_wp2
      go_ret
      exact ⟨rfl, by go_grown⟩
  · go_enter Try.func8, Try.ntmps8
    go_wp2
    go_ret
    exact ⟨rfl, by go_grown⟩
theorem put_any (B k : Nat) (n m v x y z : Int) (w : World) (hc : w.cell? ⟨B, k, none⟩ = some (.int .u16 n)) (hf : w.frozen? ⟨B, k, none⟩ = false) (h1 : bits .andNot .u16 n m = x) (h2 : bits .and .u16 v m = y) (h3 : bits .or .u16 x y = z) :
    Calls Try.prog 29 #[.pointer (some ⟨B, k, none⟩), .int .u16 m, .int .u16 v] w fun e w' => e = .returned (.tuple #[]) ∧ w' = w.setCell ⟨B, k, none⟩ (.int .u16 z) := by
  go_enter Try.func29, Try.ntmps29
  go_wp2
  exact bodyPost_end (v := .tuple #[]) (by simp [results, Try.results29, go_sem]) rfl ⟨rfl, rfl⟩
/-- block B holds a scroll -/
def Row4 (w : World) (B : Nat) (v t x : Int) (b : Bool) : Prop := w.heap[B]? = some (.cells #[.int .u16 v, .int .u16 t, .int .u8 x, .bool b] 24 (0, 0))
theorem cells_of {w' : World} {g : Nat} {cs : Array Value} {t : TypeId} (h : w'.heap[g]? = some (.cells cs t (0, 0))) : ∀ j, w'.cell? ⟨g, j, none⟩ = cs[j]? := fun j => cell_of_row _ _ j cs t (0, 0) h
theorem frozen_of {x : World} {g : Nat} {cs : Array Value} {t : TypeId} (h : x.heap[g]? = some (.cells cs t (0, 0))) : ∀ j, x.frozen? ⟨g, j, none⟩ = false := fun j => by simp [World.frozen?, h]
/-- what a closure has done: block B alone has turned -/
structure Chg (w w' : World) (B : Nat) : Prop where
  below : ∀ n, n ≤ B → Below n w w'
  kept : ∀ k, k ≠ B → w'.heap[k]? = w.heap[k]?
theorem Chg.refl (w : World) (B : Nat) : Chg w w B := ⟨fun _ _ => Below.refl _ _, fun _ _ => rfl⟩
theorem Chg.drew {w w' : World} {B : Nat} (h : Chg w w' B) : Chg w w'.drew B := ⟨fun n hn => (h.below n hn).drew, h.kept⟩
theorem Chg.set {w w' : World} {B : Nat} (h : Chg w w' B) (j : Nat) (v : Value) : Chg w (w'.setCell ⟨B, j, none⟩ v) B :=
  ⟨fun n hn => (h.below n hn).setCell (p := ⟨B, j, none⟩) hn _, fun k hk => (heap_setCell_other w' ⟨B, j, none⟩ k v hk).trans (h.kept k hk)⟩
structure Did (w w' : World) (B : Nat) (v t x : Int) (b : Bool) : Prop where
  row : Row4 w' B v t x b
  chg : Chg w w' B
theorem cl_status (B : Nat) (v t x : Int) (b : Bool) (w : World) (h : Row4 w B v t x b) :
    Calls Try.prog 27 #[.pointer (some ⟨B, 0, none⟩)] w fun e w' => e = .returned (.tuple #[]) ∧ Did w w' B v t x false := by
  have hc := cells_of h
  have hf := frozen_of h
  go_enter Try.func27, Try.ntmps27
  go_wp2
  exact bodyPost_end (v := .tuple #[]) (by simp [results, Try.results27, go_sem]) rfl ⟨rfl, heap_setCell_same w B 3 _ 24 _ h, (Chg.refl w B).set 3 _⟩
theorem cl_right (B : Nat) (v t x v' : Int) (b : Bool) (w : World) (h : Row4 w B v t x b) (v0 : 0 ≤ v) (v1 : v ≤ 32767) (hr : v' = if v % 32 = 31 then v - 31 + 1024 - 2048 * (v / 1024 % 2) else v + 1) :
    Calls Try.prog 33 #[.pointer (some ⟨B, 0, none⟩)] w fun e w' => e = .returned (.tuple #[]) ∧ Did w w' B v' t x b := by
  have hc := cells_of h
  have hf := frozen_of h
  have f1 : bits .and .u16 v 31 = v % 32 := m31.and v v0 (by omega)
  have f2 : bits .xor .u16 v 1055 = v - (v % 32 + 1024 * (v / 1024 % 2)) + (1055 - (v % 32 + 1024 * (v / 1024 % 2))) := m1055.xor v v0 (by omega)
  by_cases hv : v % 32 = 31
  · rw [if_pos hv] at hr
    rw [hv] at f1
    rw [show v - (v % 32 + 1024 * (v / 1024 % 2)) + (1055 - (v % 32 + 1024 * (v / 1024 % 2))) = v - 31 + 1024 - 2048 * (v / 1024 % 2) from by omega] at f2
    subst hr
    go_enter Try.func33, Try.ntmps33
    go_wp2
    exact bodyPost_end (v := .tuple #[]) (by simp [results, Try.results33, go_sem]) rfl ⟨rfl, heap_setCell_same w B 0 _ 24 _ h, (Chg.refl w B).set 0 _⟩
  · rw [if_neg hv] at hr
    have hq : (v % 32 == 31) = false := by simp [hv]
    subst hr
    go_enter Try.func33, Try.ntmps33
    go_wp2
    exact bodyPost_end (v := .tuple #[]) (by simp [results, Try.results33, go_sem]) rfl ⟨rfl, heap_setCell_same w B 0 _ 24 _ h, (Chg.refl w B).set 0 _⟩
theorem cl_across (B : Nat) (v t x v' : Int) (b : Bool) (w : World) (h : Row4 w B v t x b) (v0 : 0 ≤ v) (v1 : v ≤ 32767) (t0 : 0 ≤ t) (t1 : t ≤ 32767) (hr : v' = v - (v % 32 + 1024 * (v / 1024 % 2)) + (t % 32 + 1024 * (t / 1024 % 2))) :
    Calls Try.prog 31 #[.pointer (some ⟨B, 0, none⟩)] w fun e w' => e = .returned (.tuple #[]) ∧ Did w w' B v' t x b := by
  have hc := cells_of h
  have hf := frozen_of h
  subst hr
  go_enter Try.func31, Try.ntmps31
  go_wp2_with fail
  go_still_tail 7, (by kernel_rfl)
  change wpList _ _ _ _ _ w.drew
  have h2 : Row4 w.drew B v t x b := h
  have hc2 := cells_of h2
  have hf2 := frozen_of h2
  have hd : Chg w w.drew B := (Chg.refl w B).drew
  generalize w.drew = w2 at h2 hc2 hf2 hd
  go_wp2_with (go_at_call 29; refine (put_any B 0 v 1055 t _ _ _ w2 (hc2 0) (hf2 0) (m1055.andNot v v0 (by omega)) (m1055.and t t0 (by omega)) (m1055.put v t v0 (by omega) t0 (by omega))).mono ?_; rintro e w3 ⟨rfl, rfl⟩)
  exact bodyPost_end (v := .tuple #[]) (by simp [results, Try.results31, go_sem]) rfl ⟨rfl, heap_setCell_same w2 B 0 _ 24 _ h2, hd.set 0 _⟩
theorem cl_top (B : Nat) (v t x v' : Int) (b : Bool) (w : World) (h : Row4 w B v t x b) (v0 : 0 ≤ v) (v1 : v ≤ 32767) (t0 : 0 ≤ t) (t1 : t ≤ 32767) (hr : v' = v - (32 * (v / 32 % 32) + 2048 * (v / 2048 % 16)) + (32 * (t / 32 % 32) + 2048 * (t / 2048 % 16))) :
    Calls Try.prog 32 #[.pointer (some ⟨B, 0, none⟩)] w fun e w' => e = .returned (.tuple #[]) ∧ Did w w' B v' t x b := by
  have hc := cells_of h
  have hf := frozen_of h
  subst hr
  go_enter Try.func32, Try.ntmps32
  go_wp2_with fail
  go_still_tail 7, (by kernel_rfl)
  change wpList _ _ _ _ _ w.drew
  have h2 : Row4 w.drew B v t x b := h
  have hc2 := cells_of h2
  have hf2 := frozen_of h2
  have hd : Chg w w.drew B := (Chg.refl w B).drew
  generalize w.drew = w2 at h2 hc2 hf2 hd
  go_wp2_with (go_at_call 29; refine (put_any B 0 v 31712 t _ _ _ w2 (hc2 0) (hf2 0) (m31712.andNot v v0 (by omega)) (m31712.and t t0 (by omega)) (m31712.put v t v0 (by omega) t0 (by omega))).mono ?_; rintro e w3 ⟨rfl, rfl⟩)
  exact bodyPost_end (v := .tuple #[]) (by simp [results, Try.results32, go_sem]) rfl ⟨rfl, heap_setCell_same w2 B 0 _ 24 _ h2, hd.set 0 _⟩
/-- block C holds a captured octet -/
def Oct (w : World) (C : Nat) (n : Int) : Prop := w.heap[C]? = some (.cells #[.int .u8 n] 5 (0, 0))
theorem u8_u16 (n : Int) (n0 : 0 ≤ n) (n1 : n ≤ 255) : IntKind.u16.wrap n = n := IntWalk.u16_in _ (by omega)
theorem cl_control (B C : Nat) (v t x n t' : Int) (b : Bool) (w : World) (h : Row4 w B v t x b) (hC : Oct w C n) (t0 : 0 ≤ t) (t1 : t ≤ 32767) (n0 : 0 ≤ n) (n1 : n ≤ 255) (hr : t' = t - 1024 * (t / 1024 % 4) + 1024 * (n % 4)) :
    Calls Try.prog 38 #[.pointer (some ⟨B, 0, none⟩), .pointer (some ⟨C, 0, none⟩)] w fun e w' => e = .returned (.tuple #[]) ∧ Did w w' B v t' x b := by
  have hc := cells_of h
  have ho := cells_of hC
  have hsh : IntKind.u16.wrap (n * 2 ^ 10) = n * 1024 % 65536 := IntKind.wrap_u16 _
  have f2 : bits .and .u16 (n * 1024 % 65536) 3072 = 1024 * (n % 4) := by
    rw [show (3072 : Int) = ((3072 : Nat) : Int) from rfl, m3072.and _ (by omega) (by omega)]
    omega
  have f3 := m3072.put t (n * 1024 % 65536) t0 (by omega) (by omega) (by omega)
  rw [show 1024 * (n * 1024 % 65536 / 1024 % 4) = 1024 * (n % 4) from by omega] at f3
  subst hr
  go_enter Try.func38, Try.ntmps38
  go_wp2_with fail
  go_still_tail 6, (by kernel_rfl)
  change wpList _ _ _ _ _ w.drew
  have h2 : Row4 w.drew B v t x b := h
  have hc2 := cells_of h2
  have hf2 := frozen_of h2
  have hd : Chg w w.drew B := (Chg.refl w B).drew
  generalize w.drew = w2 at h2 hc2 hf2 hd
  go_wp2_with (go_at_call 29; refine (put_any B 1 t 3072 (n * 1024 % 65536) _ _ _ w2 (hc2 1) (hf2 1) (m3072.andNot t t0 (by omega)) f2 f3).mono ?_; rintro e w3 ⟨rfl, rfl⟩)
  exact bodyPost_end (v := .tuple #[]) (by simp [results, Try.results38, go_sem]) rfl ⟨rfl, heap_setCell_same w2 B 1 _ 24 _ h2, hd.set 1 _⟩
end Go.Proofs.Ytleggfpcgdpoaaa
