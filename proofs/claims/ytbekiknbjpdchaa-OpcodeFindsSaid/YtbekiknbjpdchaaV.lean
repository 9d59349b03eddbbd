/- The law's own two rows ('want' and 'of'), and its search for the first official one, as laws on lists and worlds (no walk). -/
import Derived.Test.YtbekiknbjpdchaaU
import Derived.Maps.AppendAt
namespace Go.Proofs.Ytbekiknbjpdchaa
open Go.ChangeShapes Go.WideShapes Go.ChangeAt Go.RowKit
set_option linter.unusedVariables false
theorem both_hit {N M L s : ByteArray} {md : Int} {n : Nat} (h : oS N n = s) (h2 : oM M L n = md) : both N M L s md (n + 1) = both N M L s md n ++ [n] := by
  unfold both
  rw [sel_hit h, List.filter_append]
  simp [h2]
theorem both_other {N M L s : ByteArray} {md : Int} {n : Nat} (h : oS N n = s) (h2 : ¬ oM M L n = md) : both N M L s md (n + 1) = both N M L s md n := by
  unfold both
  rw [sel_hit h, List.filter_append]
  simp [h2]
theorem both_miss {N M L s : ByteArray} {md : Int} {n : Nat} (h : ¬ oS N n = s) : both N M L s md (n + 1) = both N M L s md n := by
  unfold both
  rw [sel_miss h]
/-- the law's two rows, at two counts -/
structure Two (w wr : World) (N M L s : ByteArray) (md : Int) (n m : Nat) (a b : Value) : Prop where
  oa : wr.ownsRow w.heap.size 5 1 a (sel N s n).length ((sel N s n).map val)
  ob : wr.ownsRow w.heap.size 5 1 b (both N M L s md m).length ((both N M L s md m).map val)
  dj : ∀ g, a.ownBlock = some g → b.ownBlock = some g → False
  below : Below w.heap.size w wr
  na : sel N s n = [] → a = .slice none 0 0
  nb : both N M L s md m = [] → b = .slice none 0 0
section
variable {w wr w1 w2 : World} {N M L s : ByteArray} {md : Int} {n m : Nat} {a b a' b' : Value}
theorem Two.start (w : World) (N M L s : ByteArray) (md : Int) : Two w w N M L s md 0 0 (.slice none 0 0) (.slice none 0 0) :=
  ⟨World.ownsRow_nil _ _ _ _, World.ownsRow_nil _ _ _ _, fun g h => (by simp [Value.ownBlock] at h), Below.refl _ _, fun _ => rfl, fun _ => rfl⟩
theorem Two.on (h : Two w wr N M L s md n m a b) (hb : Below wr.heap.size wr w1) : Two w w1 N M L s md n m a b :=
  ⟨owns_below h.oa hb, owns_below h.ob hb, h.dj, below_call h.below hb, h.na, h.nb⟩
theorem Two.alloc (h : Two w wr N M L s md n m a b) (o : Obj) : Two w (wr.alloc o) N M L s md n m a b := h.on ((Below.refl _ _).alloc (Nat.le_refl _) o)
theorem Two.stay (h : Two w wr N M L s md n n a b) (hs : ¬ oS N n = s) : Two w wr N M L s md (n + 1) (n + 1) a b :=
  ⟨by rw [sel_miss hs]; exact h.oa, by rw [both_miss hs]; exact h.ob, h.dj, h.below, by rw [sel_miss hs]; exact h.na, by rw [both_miss hs]; exact h.nb⟩
theorem Two.other (h : Two w wr N M L s md (n + 1) n a b) (hs : oS N n = s) (hm : ¬ oM M L n = md) : Two w wr N M L s md (n + 1) (n + 1) a b :=
  ⟨h.oa, by rw [both_other hs hm]; exact h.ob, h.dj, h.below, h.na, by rw [both_other hs hm]; exact h.nb⟩
/-- an append onto the first row -/
theorem Two.first (h : Two w wr N M L s md n m a b) (hs : oS N n = s) (ho : w2.ownsRow w.heap.size 5 1 a' ((sel N s n).length + 1) ((sel N s n).map val ++ [.int .u8 n])) (hg : wr.grownBy w2 a.ownBlock)
    (hat : a'.ownBlock = a.ownBlock ∨ a'.ownBlock = some wr.heap.size) : Two w w2 N M L s md (n + 1) m a' b := by
  refine ⟨owns_add hs ho, h.ob.kept hg ?_, fun g h1 h2 => ?_, h.below.grown hg h.below.size (fun k hk => (h.oa.lt k hk).1), fun q => absurd q (by rw [sel_hit hs]; simp), h.nb⟩
  · cases hb : b.ownBlock
    · exact .inl rfl
    · exact .inr fun q => h.dj _ q.symm hb
  · rcases hat with e | e
    · exact h.dj g (e ▸ h1) h2
    · rw [e] at h1
      injection h1 with h1
      have := (h.ob.lt g h2).2
      omega
/-- an append onto the second row -/
theorem Two.second (h : Two w wr N M L s md (n + 1) n a b) (hs : oS N n = s) (hm : oM M L n = md) (ho : w2.ownsRow w.heap.size 5 1 b' ((both N M L s md n).length + 1) ((both N M L s md n).map val ++ [.int .u8 n])) (hg : wr.grownBy w2 b.ownBlock)
    (hat : b'.ownBlock = b.ownBlock ∨ b'.ownBlock = some wr.heap.size) : Two w w2 N M L s md (n + 1) (n + 1) a b' := by
  refine ⟨h.oa.kept hg ?_, by rw [both_hit hs hm]; simpa [val] using ho, fun g h1 h2 => ?_, h.below.grown hg h.below.size (fun k hk => (h.ob.lt k hk).1), h.na, fun q => absurd q (by rw [both_hit hs hm]; simp)⟩
  · cases ha : a.ownBlock
    · exact .inl rfl
    · exact .inr fun q => h.dj _ ha q.symm
  · rcases hat with e | e
    · exact h.dj g h1 (e ▸ h2)
    · rw [e] at h2
      injection h2 with h2
      have := (h.oa.lt g h1).2
      omega
end
/-- a row of at least one element: where it lies, and its cells -/
theorem owns_some {w : World} {base n : Nat} {v : Value} {zs : List Nat} (h : w.ownsRow base 5 1 v n (zs.map val)) (hn : zs.length = n) (h0 : 0 < n) : ∃ g cap, v = .slice (some ⟨g, 0, none⟩) n cap ∧ base ≤ g ∧ g < w.heap.size ∧ n ≤ cap ∧ cap ≤ maxLen ∧
    ∀ j, j < n → w.cell? ⟨g, j, none⟩ = some (.int .u8 (zs[j]! : Nat)) := by
  rcases h.2 with ⟨rfl, h1⟩ | ⟨g, cap, cs, rfl, hb, hh, hc, hm, _, ht⟩
  · omega
  · refine ⟨g, cap, rfl, hb, (Array.getElem?_eq_some_iff.1 hh).1, hc, hm, fun j hj => ?_⟩
    rw [cells_of hh j]
    rw [Nat.mul_one] at ht
    exact row_at ht hn hj
/-- the search from the end: behind the elements from t on -/
def tail (p : Nat → Bool) (F : List Nat) (t : Nat) : Nat := ((F.drop t).find? p).getD F[0]!
theorem tail_end (p : Nat → Bool) (F : List Nat) : tail p F F.length = F[0]! := by
  unfold tail
  rw [List.drop_length]
  rfl
theorem tail_all (p : Nat → Bool) (F : List Nat) : tail p F 0 = best p F := rfl
theorem drop_at {F : List Nat} {t : Nat} (h : t < F.length) : F.drop t = F[t]! :: F.drop (t + 1) := by
  rw [List.drop_eq_getElem_cons h, getElem!_pos F t h]
theorem tail_yes {p : Nat → Bool} {F : List Nat} {t : Nat} (h : t < F.length) (hp : p F[t]! = true) : tail p F t = F[t]! := by
  unfold tail
  rw [drop_at h, List.find?_cons, hp]
  rfl
theorem tail_no {p : Nat → Bool} {F : List Nat} {t : Nat} (h : t < F.length) (hp : p F[t]! = false) : tail p F t = tail p F (t + 1) := by
  unfold tail
  rw [drop_at h, List.find?_cons, hp]
end Go.Proofs.Ytbekiknbjpdchaa
