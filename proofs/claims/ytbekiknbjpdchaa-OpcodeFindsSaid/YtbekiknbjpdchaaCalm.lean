/-
  A law of mine on regions that draw their order, for any program: the operations ahead of a forced tail are calm: in every world that meets a condition S each yields one value and leaves that world as it is (a call of a Go function by its contract; an operation whose guard says no yields nothing). Then one walk in the order of the text serves every order, although an operation of the tail (an alloc) may come up at any time.
  The kit has this for loads (Derived/OrdersHeld.lean) and, without an alloc, for calls (Derived/Deep/Quiet.lean); here both are joined.
-/
import Derived.OrdersHeld
import Derived.Deep.Quiet
import Derived.Deep.QuietTactic
import Derived.Below
namespace Go.Proofs.Ytbekiknbjpdchaa
section
variable {P : Program} {ops : Array Oper} {Q : Exit → Act → World → Prop} {md : Region.Mode} {S : World → Prop}

def CalmAt (P : Program) (ops : Array Oper) (S : World → Prop) (o : Oper) (v : Value) (a : Act) : Prop :=
  (Region.wanted o (yielded ops a.tmps) = true ∧ ∀ w, S w → o.quietAt P a (fun x => x = w) w v) ∨ (Region.wanted o (yielded ops a.tmps) = false ∧ v = undef)

theorem CalmAt.step {i : Nat} {o : Oper} {v : Value} {a : Act} (hi : ops[i]? = some o) (hy : CalmAt P ops S o v a) {K : Act → World → Prop} {w : World} (hS : S w) (h : K (a.put o.dst v) w) :
    wpOp P ops Q i K a w := by
  unfold wpOp
  simp only [hi]
  rcases hy with ⟨hw, hv⟩ | ⟨hw, rfl⟩
  · rw [if_pos hw]
    exact .inl (Oper.wp_of_quiet (C := fun x => x = w) (K := fun b => b = a.put o.dst v) rfl (fun b x hx hb => by subst hx; subst hb; exact h) ⟨v, fun x hx => by subst hx; exact hv _ hS, rfl⟩)
  · rw [if_neg (by rw [hw]; exact Bool.false_ne_true)]
    exact h

theorem CalmAt.same {o : Oper} {v : Value} {a b : Act} (hy : CalmAt P ops S o v a) (he : execOp b.eval o = execOp a.eval o) (hw : Region.wanted o (yielded ops b.tmps) = Region.wanted o (yielded ops a.tmps)) : CalmAt P ops S o v b := by
  unfold CalmAt Oper.quietAt at *
  rw [he, hw]
  exact hy

/-- the result of an operation that comes up ahead of a calm one: nothing of the calm one has turned -/
theorem calm_upon {oi oj : Oper} {v : Value} {a : Act} {K : Act → World → Prop} (hput : ∀ (b : Act) (u : Value), CalmAt P ops S oi v b → CalmAt P ops S oi v (b.put oj.dst u))
    (hdef : ∀ (b : Act) d, CalmAt P ops S oi v b → CalmAt P ops S oi v { b with defers := d :: b.defers }) (hcomm : ∀ (b : Act) (u : Value), (b.put oi.dst v).put oj.dst u = (b.put oj.dst u).put oi.dst v)
    (hQ : ∀ c b w, Q (.panic c) (b.put oi.dst v) w → Q (.panic c) b w) (hy : CalmAt P ops S oi v a) (r : Result Next)
    (h : oj.upon P (a.put oi.dst v) K Q r) : oj.upon P a (fun b w => CalmAt P ops S oi v b ∧ K (b.put oi.dst v) w) Q r := by
  cases r with
  | ok n w =>
    cases n <;> simp only [Oper.upon] at h ⊢
    case value u => exact ⟨hput a u hy, by rw [← hcomm]; exact h⟩
    case skip => exact ⟨hput a undef hy, by rw [← hcomm]; exact h⟩
    case defer d => exact ⟨hput _ undef (hdef a d hy), by rw [← hcomm, ← Act.put_defers]; exact h⟩
    case enter f args =>
      refine Calls.mono h fun e x he => ?_
      cases e with
      | returned u => exact ⟨hput a u hy, by rw [← hcomm]; exact he⟩
      | panicked c => exact hQ _ _ _ he
      | outgrown => exact he
    case row row args => exact Rows.mono h fun u x he => ⟨hput a u hy, by rw [← hcomm]; exact he⟩
  | halt x w =>
    cases x <;> simp only [Oper.upon] at h ⊢
    case panic u => exact hQ _ _ _ h

theorem calm_put {j : Nat} {oi oj : Oper} {v : Value} (hj : ops[j]? = some oj) (hap : oi.apart ops oj = true) (hsi : ∀ cs b, oi.op ≠ .select cs b) (hsj : ∀ cs b, oj.op ≠ .select cs b)
    (hQ : ∀ c b w, Q (.panic c) (b.put oi.dst v) w → Q (.panic c) b w) {K : Act → World → Prop} {a : Act} {w : World} (hy : CalmAt P ops S oi v a) (h : wpOp P ops Q j K (a.put oi.dst v) w) :
    wpOp P ops Q j (fun b x => CalmAt P ops S oi v b ∧ K (b.put oi.dst v) x) a w := by
  obtain ⟨h1, h2, h3⟩ := Oper.apart_spec hap
  have hput : ∀ (b : Act) (u : Value), CalmAt P ops S oi v b → CalmAt P ops S oi v (b.put oj.dst u) := fun b u hb => hb.same (execOp_put oi hsi b oj.dst u h3) (wanted_put oi b oj.dst u h3)
  have hcomm : ∀ (b : Act) (u : Value), (b.put oi.dst v).put oj.dst u = (b.put oj.dst u).put oi.dst v := fun b u => Act.put_comm b v u h2
  unfold wpOp at *
  simp only [hj] at *
  rw [wanted_put oj a oi.dst v h1] at h
  by_cases hw : Region.wanted oj (yielded ops a.tmps) = true
  · rw [if_pos hw] at *
    rcases h with h | ⟨ha, hl⟩
    · left
      unfold Oper.wp at *
      rw [execOp_put oj hsj a oi.dst v h1] at h
      exact calm_upon hput (fun b d hb => hb.same rfl rfl) hcomm hQ hy _ h
    · right
      refine ⟨?_, hl⟩
      unfold Oper.asks at *
      rw [execOp_put oj hsj a oi.dst v h1] at ha
      exact ha
  · rw [if_neg hw] at *
    exact ⟨hput a undef hy, by rw [← hcomm]; exact h⟩

/-- a calm operation that may come up now may be taken first -/
theorem calm_first {i : Nat} {oi : Oper} {v : Value} (hi : ops[i]? = some oi) (hsel : ∀ (j : Nat) (o : Oper) cs b, ops[j]? = some o → o.op ≠ .select cs b)
    (hQ : ∀ c b w, Q (.panic c) (b.put oi.dst v) w → Q (.panic c) b w) : ∀ (n : Nat) (listed : Array Bool) (a : Act) (w : World),
    (∀ j oj, ops[j]? = some oj → j ≠ i → listed.getD j true = false → (∀ e ∈ oj.after, Region.binds md e = true → e.on ≠ i) → oi.apart ops oj = true) →
    i ∈ Region.ready md ops listed → CalmAt P ops S oi v a → S w →
    wpAnyH P md ops Q S n (listed.setIfInBounds i true) (a.put oi.dst v) w → wpAnyH P md ops Q S (n + 1) listed a w
  | 0, listed, a, w, _, hr, hy, hS, H => by
    refine ⟨fun h => (by rw [h] at hr; cases hr), fun j hj => ?_⟩
    by_cases hji : j = i
    · subst hji
      exact hy.step hi hS ⟨hS, H⟩
    · have := ready_mono hj hji
      rw [H.1] at this
      cases this
  | n + 1, listed, a, w, hfree, hr, hy, hS, H => by
    refine ⟨fun h => (by rw [h] at hr; cases hr), fun j hj => ?_⟩
    by_cases hji : j = i
    · subst hji
      exact hy.step hi hS ⟨hS, H⟩
    · have hnext := H.2 j (ready_mono hj hji)
      obtain ⟨hun, oj, hoj, hall⟩ := mem_ready.1 hj
      have hnot : ∀ e ∈ oj.after, Region.binds md e = true → e.on ≠ i := by
        intro e he hb heq
        have x1 := hall e he hb
        have x0 := (mem_ready.1 hr).1
        rw [heq] at x1
        rcases Nat.lt_or_ge i listed.size with hlt | hge
        · simp [hlt] at x0 x1
          rw [x0] at x1
          cases x1
        · simp [Array.getElem?_eq_none hge] at x1
      refine wpOp_mono (fun b x hb => ⟨hb.2.1, ?_⟩) (calm_put hoj (hfree j oj hoj hji hun hnot) (fun cs b => hsel i oi cs b hi) (fun cs b => hsel j oj cs b hoj) hQ hy hnext)
      refine calm_first hi hsel hQ n (listed.setIfInBounds j true) b x (fun k ok hk hki hkun hkno => hfree k ok hk hki ?_ hkno) (ready_mono hr (Ne.symm hji)) hb.1 hb.2.1 ?_
      · by_cases hjk : j = k
        · subst hjk
          exact hun
        · rw [getD_set_ne true hjk] at hkun
          exact hkun
      · rw [Array.setIfInBounds_comm _ _ hji]
        exact hb.2.2

/-- the calm operations in the order of the text -/
def wpCalm (P : Program) (ops : Array Oper) (S : World → Prop) (R : Act → Prop) : List Oper → Act → Prop
  | [], a => R a
  | o :: rest, a => ∃ v, CalmAt P ops S o v a ∧ wpCalm P ops S R rest (a.put o.dst v)
theorem wpCalm_mono {R R' : Act → Prop} (hR : ∀ b, R b → R' b) : ∀ (l : List Oper) (a : Act), wpCalm P ops S R l a → wpCalm P ops S R' l a
  | [], _, h => hR _ h
  | _ :: l, _, ⟨v, h1, h2⟩ => ⟨v, h1, wpCalm_mono hR l _ h2⟩
theorem wpCalm_yes {R : Act → Prop} {o : Oper} {rest : List Oper} {a : Act} (v : Value) (hw : Region.wanted o (yielded ops a.tmps) = true) (h : ∀ w, S w → o.quietAt P a (fun x => x = w) w v)
    (hK : wpCalm P ops S R rest (a.put o.dst v)) : wpCalm P ops S R (o :: rest) a := ⟨v, .inl ⟨hw, h⟩, hK⟩
theorem wpCalm_no {R : Act → Prop} {o : Oper} {rest : List Oper} {a : Act} (hw : Region.wanted o (yielded ops a.tmps) = false)
    (hK : wpCalm P ops S R rest (a.put o.dst undef)) : wpCalm P ops S R (o :: rest) a := ⟨undef, .inr ⟨hw, rfl⟩, hK⟩
theorem wpCalm_end {R : Act → Prop} {a : Act} (h : R a) : wpCalm P ops S R [] a := h
/-- may the operations from number k on, n of them, be taken in the order of the text? -/
def calmB (md : Region.Mode) (ops : Array Oper) : Nat → Nat → Array Bool → Bool
  | 0, _, _ => true
  | n + 1, k, listed => (Region.ready md ops listed).contains k && Region.free md ops listed k && calmB md ops n (k + 1) (listed.setIfInBounds k true)
def listedTo : Nat → Nat → Array Bool → Array Bool
  | 0, _, listed => listed
  | n + 1, k, listed => listedTo n (k + 1) (listed.setIfInBounds k true)

theorem wpAnyH_calm (hs : Region.noSelect ops = true) (hQ : ∀ c b (d : Option Tmp) v w, Q (.panic c) (b.put d v) w → Q (.panic c) b w) {w : World} (hS : S w) {m : Nat} :
    ∀ (l : List Oper) (k : Nat) (listed : Array Bool) (a : Act), (∀ j, j < l.length → l[j]? = ops[k + j]?) → calmB md ops l.length k listed = true →
    wpCalm P ops S (fun b => wpAnyH P md ops Q S m (listedTo l.length k listed) b w) l a → wpAnyH P md ops Q S (l.length + m) listed a w
  | [], _, _, _, _, _, h => by simpa [wpCalm, listedTo] using h
  | o :: l, k, listed, a, hl, hB, h => by
    have h0 : ops[k]? = some o := by simpa using (hl 0 (by simp)).symm
    simp only [List.length_cons, calmB, Bool.and_eq_true] at hB
    obtain ⟨⟨hr, hf⟩, hB'⟩ := hB
    obtain ⟨v, hy, hK⟩ := h
    rw [show (o :: l).length + m = (l.length + m) + 1 from by simp; omega]
    refine calm_first h0 (Region.noSelect_spec hs) (fun c b w => hQ c b o.dst v w) _ listed a w (Region.free_spec h0 hf) (by simpa using hr) hy hS ?_
    exact wpAnyH_calm hs hQ hS l (k + 1) _ _ (fun j hj => by have := hl (j + 1) (by simpa using hj); simpa [Nat.add_assoc, Nat.add_comm 1 j] using this) hB' hK

/-- the operations behind the calm ones: each waits for the one ahead -/
def seqB (md : Region.Mode) (ops : Array Oper) : Nat → Nat → Array Bool → Bool
  | 0, _, listed => (Region.ready md ops listed).isEmpty
  | n + 1, k, listed => (Region.ready md ops listed == [k]) && seqB md ops n (k + 1) (listed.setIfInBounds k true)
def wpSeq (P : Program) (ops : Array Oper) (Q : Exit → Act → World → Prop) (S : World → Prop) : List Oper → Act → World → Prop
  | [], a, w => Q .normal a w
  | o :: rest, a, w => if Region.wanted o (yielded ops a.tmps) = true then o.wp P a w (fun b x => S x ∧ wpSeq P ops Q S rest b x) Q else (S w ∧ wpSeq P ops Q S rest (a.put o.dst undef) w)

theorem wpAnyH_seq : ∀ (l : List Oper) (k : Nat) (listed : Array Bool) (a : Act) (w : World), (∀ j, j < l.length → l[j]? = ops[k + j]?) → seqB md ops l.length k listed = true →
    wpSeq P ops Q S l a w → wpAnyH P md ops Q S l.length listed a w
  | [], _, _, _, _, _, hB, h => ⟨by simpa [seqB] using hB, h⟩
  | o :: l, k, listed, a, w, hl, hB, h => by
    have h0 : ops[k]? = some o := by simpa using (hl 0 (by simp)).symm
    simp only [List.length_cons, seqB, Bool.and_eq_true, beq_iff_eq] at hB
    refine ⟨fun hn => (by rw [hB.1] at hn; cases hn), fun i hi => ?_⟩
    rw [hB.1] at hi
    obtain rfl : i = k := by simpa using hi
    have rest : ∀ b x, S x ∧ wpSeq P ops Q S l b x → S x ∧ wpAnyH P md ops Q S l.length (listed.setIfInBounds i true) b x := fun b x hb =>
      ⟨hb.1, wpAnyH_seq l (i + 1) _ b x (fun j hj => by have := hl (j + 1) (by simpa using hj); simpa [Nat.add_assoc, Nat.add_comm 1 j] using this) hB.2 hb.2⟩
    unfold wpOp
    simp only [h0]
    unfold wpSeq at h
    by_cases hw : Region.wanted o (yielded ops a.tmps) = true
    · rw [if_pos hw] at *
      exact .inl (Oper.wp_mono (fun b x => rest b x) h)
    · rw [if_neg hw] at *
      exact rest _ _ h

theorem wpSeq_yes {o : Oper} {rest : List Oper} {a : Act} {w : World} (hw : Region.wanted o (yielded ops a.tmps) = true) (h : o.wp P a w (fun b x => S x ∧ wpSeq P ops Q S rest b x) Q) : wpSeq P ops Q S (o :: rest) a w := by
  unfold wpSeq
  rw [if_pos hw]
  exact h
theorem wpSeq_end {a : Act} {w : World} (h : Q .normal a w) : wpSeq P ops Q S [] a w := h
/-- THE LAW: n calm operations, then a forced tail. -/
theorem wp_region_calm {id : Nat} {a : Act} {w : World} {l : List Oper} (n : Nat) (hm : P.follows .mixedOrders = true)
    (hB : (Region.noSelect l.toArray && decide (n ≤ l.length) && calmB .any l.toArray n 0 (Array.replicate l.length false) && seqB .any l.toArray (l.length - n) n (listedTo n 0 (Array.replicate l.length false))) = true)
    (hQ : ∀ c b (d : Option Tmp) v w, Q (.panic c) (b.put d v) w → Q (.panic c) b w) (hS : S w.drew)
    (h : wpCalm P l.toArray S (fun b => wpSeq P l.toArray Q S (l.drop n) b w.drew) (l.take n) a) : (Code.region id l.toArray true).wp P Q a w := by
  simp only [Bool.and_eq_true, decide_eq_true_eq] at hB
  obtain ⟨⟨⟨hs, hn⟩, hc⟩, hq⟩ := hB
  have ht : (l.take n).length = n := by simp; omega
  have hd : (l.drop n).length = l.length - n := by simp
  refine wp_region_held hm (S := S) ?_
  have key := wpAnyH_calm (md := .any) (P := P) (ops := l.toArray) (Q := Q) (S := S) hs hQ hS (m := l.length - n) (l.take n) 0 (Array.replicate l.length false) a
    (fun j hj => by simp at hj ⊢; rw [List.getElem?_take_of_lt (by omega)]) (by rw [ht]; exact hc)
    (by
      have : ∀ b, wpSeq P l.toArray Q S (l.drop n) b w.drew → wpAnyH P .any l.toArray Q S (l.length - n) (listedTo (l.take n).length 0 (Array.replicate l.length false)) b w.drew := fun b hb => by
        have := wpAnyH_seq (md := .any) (P := P) (ops := l.toArray) (Q := Q) (S := S) (l.drop n) n (listedTo n 0 (Array.replicate l.length false)) b w.drew (fun j hj => by simp) (by rw [hd]; exact hq) hb
        rw [hd] at this
        rw [ht]
        exact this
      exact wpCalm_mono this (l.take n) a h)
  rw [ht, show n + (l.length - n) = l.length from by omega] at key
  simpa using key
end
end Go.Proofs.Ytbekiknbjpdchaa
