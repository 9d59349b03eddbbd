/- What slices.DeleteFunc does to its row, as a law on lists and worlds (no walk). -/
import Derived.Test.YtbekiknbjpdchaaP
import Derived.Lib.SliceRun
namespace Go.Proofs.Ytbekiknbjpdchaa
open Go.ChangeShapes Go.WideShapes Go.ChangeAt Go.RowKit
set_option linter.unusedVariables false
theorem first_or (f : Nat → Bool) : ∀ n : Nat, (∀ j, j < n → f j = false) ∨ ∃ k, k < n ∧ f k = true ∧ ∀ j, j < k → f j = false
  | 0 => .inl fun j hj => absurd hj (Nat.not_lt_zero _)
  | n + 1 => by
    rcases first_or f n with h | ⟨k, h1, h2, h3⟩
    · cases q : f n
      · exact .inl fun j hj => by
          rcases Nat.lt_succ_iff_lt_or_eq.1 hj with h' | rfl
          · exact h j h'
          · exact q
      · exact .inr ⟨n, Nat.lt_succ_self _, q, h⟩
    · exact .inr ⟨k, Nat.lt_succ_of_lt h1, h2, h3⟩
/-- of the first j elements those that are kept -/
def kept (p : Nat → Bool) (zs : List Nat) (j : Nat) : List Nat := (zs.take j).filter (fun x => !p x)
theorem take_more {zs : List Nat} {j : Nat} (h : j < zs.length) : zs.take (j + 1) = zs.take j ++ [zs[j]!] := by
  rw [List.take_add_one, List.getElem?_eq_getElem h, getElem!_pos zs j h]
  rfl
theorem kept_hit {p : Nat → Bool} {zs : List Nat} {j : Nat} (h : j < zs.length) (hp : p zs[j]! = false) : kept p zs (j + 1) = kept p zs j ++ [zs[j]!] := by
  unfold kept
  rw [take_more h, List.filter_append]
  generalize zs[j]! = y at hp ⊢
  simp [hp]
theorem kept_miss {p : Nat → Bool} {zs : List Nat} {j : Nat} (h : j < zs.length) (hp : p zs[j]! = true) : kept p zs (j + 1) = kept p zs j := by
  unfold kept
  rw [take_more h, List.filter_append]
  generalize zs[j]! = y at hp ⊢
  simp [hp]
theorem kept_all {p : Nat → Bool} {zs : List Nat} : ∀ {k : Nat}, k ≤ zs.length → (∀ j, j < k → p zs[j]! = false) → kept p zs k = zs.take k
  | 0, _, _ => rfl
  | k + 1, h, hp => by
    rw [kept_hit (by omega) (hp k (by omega)), kept_all (by omega) (fun j hj => hp j (by omega)), take_more (by omega)]
theorem kept_end (p : Nat → Bool) (zs : List Nat) : kept p zs zs.length = zs.filter (fun x => !p x) := by
  unfold kept
  rw [List.take_length]
theorem grown_trans {a b c : World} {r : Option Nat} (h : a.grownBy b r) (k : b.grownBy c r) : a.grownBy c r :=
  ⟨k.os.trans h.os, k.tape.trans h.tape, k.output.trans h.output, Nat.le_trans h.size k.size, fun i hi hr => (k.block i (Nat.lt_of_lt_of_le hi h.size) hr).trans (h.block i hi hr)⟩
theorem grown_set (w : World) (g j : Nat) (v : Value) : w.grownBy (w.setCell ⟨g, j, none⟩ v) (some g) :=
  have b := (Below.refl 0 w).setCell (p := ⟨g, j, none⟩) (Nat.zero_le _) v
  ⟨b.os, b.tape, b.output, b.size, fun k _ hr => heap_setCell_other w ⟨g, j, none⟩ k v (fun e => hr (by rw [e]))⟩
theorem setCells_row (g : Nat) (t : TypeId) : ∀ (vs : List Value) (o : Nat) (w : World) (cs : Array Value), w.heap[g]? = some (.cells cs t (0, 0)) →
    ∃ cs' : Array Value, (w.setCells g o vs).heap[g]? = some (.cells cs' t (0, 0)) ∧ cs'.size = cs.size ∧ (∀ x, x < o → cs'[x]? = cs[x]?) ∧ w.grownBy (w.setCells g o vs) (some g)
  | [], o, w, cs, h => ⟨cs, h, rfl, fun _ _ => rfl, (below_grown (Below.refl _ w) _)⟩
  | v :: r, o, w, cs, h => by
    obtain ⟨cs', h1, h2, h3, h4⟩ := setCells_row g t r (o + 1) (w.setCell ⟨g, o, none⟩ v) (cs.setIfInBounds o v) (heap_setCell_same w g o cs t v h)
    refine ⟨cs', h1, by rw [h2]; simp, fun x hx => ?_, grown_trans (grown_set w g o v) h4⟩
    rw [h3 x (by omega)]
    rw [Array.getElem?_setIfInBounds]
    rw [if_neg (by omega)]
structure Del (w wr : World) (gb cap : Nat) (zs : List Nat) (p : Nat → Bool) (i j : Nat) (cs : Array Value) : Prop where
  heap : wr.heap[gb]? = some (.cells cs 5 (0, 0))
  size : cs.size = cap
  len : i = (kept p zs j).length
  low : ∀ t, t < i → cs[t]? = some (val (kept p zs j)[t]!)
  high : ∀ t, j ≤ t → t < zs.length → cs[t]? = some (val zs[t]!)
  grown : w.grownBy wr (some gb)
  lt : i < j
  le : j ≤ zs.length
  cap : zs.length ≤ cap
theorem row_at {cs : Array Value} {zs : List Nat} {n : Nat} (h : cs.toList.take n = zs.map val) (hn : zs.length = n) {t : Nat} (ht : t < n) : cs[t]? = some (val zs[t]!) := by
  have e : (cs.toList.take n)[t]? = cs[t]? := by rw [List.getElem?_take, if_pos ht]; simp
  rw [← e, h, List.getElem?_map, List.getElem?_eq_getElem (by omega), getElem!_pos zs t (by omega)]
  rfl
theorem Del.start {w w1 : World} {gb cap k : Nat} {zs : List Nat} {p : Nat → Bool} {cs : Array Value} (h : w.heap[gb]? = some (.cells cs 5 (0, 0))) (hs : cs.size = cap) (hc : zs.length ≤ cap) (ht : cs.toList.take zs.length = zs.map val)
    (hb : Below w.heap.size w w1) (hk : k < zs.length) (hp : p zs[k]! = true) (ha : ∀ j, j < k → p zs[j]! = false) : Del w w1 gb cap zs p k (k + 1) cs := by
  have e : kept p zs (k + 1) = zs.take k := by rw [kept_miss hk hp, kept_all (by omega) ha]
  refine ⟨old_in h hb, hs, by rw [e]; simp; omega, fun t h1 => ?_, fun t _ h2 => row_at ht rfl h2, below_grown hb _, Nat.lt_succ_self _, hk, hc⟩
  rw [row_at ht rfl (show t < zs.length by omega), e, getElem!_pos zs t (by omega), getElem!_pos (zs.take k) t (by simp; omega), List.getElem_take]
theorem Del.hit {w wr w2 : World} {gb cap i j : Nat} {zs : List Nat} {p : Nat → Bool} {cs : Array Value} (h : Del w wr gb cap zs p i j cs) (hj : j < zs.length) (hp : p zs[j]! = false) (hb : Below wr.heap.size wr w2) :
    Del w (w2.setCell ⟨gb, i, none⟩ (val zs[j]!)) gb cap zs p (i + 1) (j + 1) (cs.setIfInBounds i (val zs[j]!)) := by
  have e := kept_hit hj hp
  have hi := h.len
  have hlt := h.lt
  have hcap := h.cap
  have hsz := h.size
  refine ⟨heap_setCell_same w2 gb i cs 5 _ (old_in h.heap hb), by simp [hsz], by rw [e]; simp; omega, fun t h1 => ?_, fun t h1 h2 => ?_, grown_trans (grown_trans h.grown (below_grown hb _)) (grown_set _ _ _ _), by omega, by omega, hcap⟩
  · rw [Array.getElem?_setIfInBounds, e]
    by_cases q : i = t
    · subst q
      rw [if_pos rfl, if_pos (by omega), getElem!_pos _ i (by simp; omega), List.getElem_append_right (by omega)]
      simp
    · rw [if_neg q, h.low t (by omega), getElem!_pos (kept p zs j) t (by omega), getElem!_pos _ t (by simp; omega), List.getElem_append_left (by omega)]
  · rw [Array.getElem?_setIfInBounds, if_neg (by omega), h.high t (by omega) h2]
theorem Del.miss {w wr w2 : World} {gb cap i j : Nat} {zs : List Nat} {p : Nat → Bool} {cs : Array Value} (h : Del w wr gb cap zs p i j cs) (hj : j < zs.length) (hp : p zs[j]! = true) (hb : Below wr.heap.size wr w2) :
    Del w w2 gb cap zs p i (j + 1) cs := by
  have e := kept_miss hj hp
  have hlt := h.lt
  refine ⟨old_in h.heap hb, h.size, by rw [e]; exact h.len, fun t h1 => by rw [e]; exact h.low t h1, fun t h1 h2 => h.high t (by omega) h2, grown_trans h.grown (below_grown hb _), by omega, hj, h.cap⟩
theorem Del.done {w wr : World} {gb cap i base : Nat} {zs : List Nat} {p : Nat → Bool} {cs : Array Value} (h : Del w wr gb cap zs p i zs.length cs) (hbase : base ≤ gb) (hm : cap ≤ maxLen) (vs : List Value) :
    (wr.setCells gb i vs).ownsRow base 5 1 (.slice (some ⟨gb, 0, none⟩) i cap) (zs.filter (fun x => !p x)).length ((zs.filter (fun x => !p x)).map val) ∧ w.grownBy (wr.setCells gb i vs) (some gb) := by
  obtain ⟨cs', h1, h2, h3, h4⟩ := setCells_row gb 5 vs i wr cs h.heap
  have hi := h.len
  have hlt := h.lt
  have hcap := h.cap
  have hsz := h.size
  rw [kept_end] at hi
  have e : i = (zs.filter (fun x => !p x)).length := hi
  refine ⟨⟨by simp, .inr ⟨gb, cap, cs', by rw [← e], hbase, h1, by omega, hm, by omega, ?_⟩⟩, grown_trans h.grown h4⟩
  rw [← e, Nat.mul_one]
  apply List.ext_getElem?
  intro t
  rw [List.getElem?_take, List.getElem?_map]
  by_cases ht : t < i
  · rw [if_pos ht]
    have a := h3 t ht
    have b := h.low t ht
    rw [kept_end, getElem!_pos _ t (by omega)] at b
    rw [show cs'.toList[t]? = cs'[t]? by simp, a, b, List.getElem?_eq_getElem (by omega)]
    rfl
  · rw [if_neg ht, List.getElem?_eq_none (by omega)]
    rfl
end Go.Proofs.Ytbekiknbjpdchaa
