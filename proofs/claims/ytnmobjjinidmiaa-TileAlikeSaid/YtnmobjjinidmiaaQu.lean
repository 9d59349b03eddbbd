/- Single steps of the kit's walk of a quiet region (Derived/Deep/Quiet.lean), for any class of worlds; and what a class 'below' keeps. -/
import Derived.Test.YtnmobjjinidmiaaA
import Derived.Deep.Quiet
import Derived.Deep.QuietTactic
import Derived.Deep.RegionHeld3
import Derived.Deep.DeepCutAuto
namespace Go.Proofs.Ytnmobjjinidmiaa
open Go.RowKit
section
variable {P : Program} {ops : Array Oper} {C : World → Prop} {R : Act → Prop} {o : Oper} {rest : List Oper} {a : Act}
theorem quiet_yes (v : Value) (hw : Region.wanted o (yielded ops a.tmps) = true) (h : ∀ w, C w → o.quietAt P a C w v) (hK : wpQuiet P ops C R rest (a.put o.dst v)) : wpQuiet P ops C R (o :: rest) a := by
  unfold wpQuiet
  rw [if_pos hw]
  exact ⟨v, h, hK⟩
theorem quiet_no (hw : Region.wanted o (yielded ops a.tmps) = false) (hK : wpQuiet P ops C R rest (a.put o.dst undef)) : wpQuiet P ops C R (o :: rest) a := by
  unfold wpQuiet
  rw [if_neg (by rw [hw]; exact Bool.false_ne_true)]
  exact hK
end
/-- a region that draws, whose operations read and whose calls make new memory: the worlds that are as W below W's size -/
theorem wp_region_below {P : Program} {id : Nat} {Q : Exit → Act → World → Prop} {a : Act} {W : World} {l : List Oper} (hm : P.follows .mixedOrders = true) (hB : Region.lexB .any l.toArray = true)
    (h : wpQuiet P l.toArray (fun x => Below W.heap.size W x) (fun b => ∀ x, Below W.heap.size W x → Q .normal b x) l a) : (Code.region id l.toArray true).wp P Q a W :=
  wp_region_quiet (C := fun x => Below W.heap.size W x) hm hB (Below.refl _ _).drew (by simpa using h)
theorem drew_size {B : Nat} {W w1 : World} (z : Below B W.drew w1) : W.heap.size ≤ w1.heap.size := z.size
theorem alloc_size {W w1 : World} {o : Obj} (z : Below (W.drew.alloc o).heap.size (W.drew.alloc o) w1) : W.heap.size < w1.heap.size := Nat.lt_of_lt_of_le (by rw [World.size_alloc]; exact Nat.lt_succ_self _) z.size
theorem alloc_size' {W w1 : World} {o : Obj} (z : Below (W.alloc o).drew.heap.size (W.alloc o).drew w1) : W.heap.size < w1.heap.size := Nat.lt_of_lt_of_le (by show W.heap.size < (W.alloc o).heap.size; rw [World.size_alloc]; exact Nat.lt_succ_self _) z.size
theorem drew_le (W : World) : W.heap.size ≤ W.drew.heap.size := Nat.le_refl _
theorem row5_set {x : World} {T : Nat} (h : x.heap[T]? = some (.cells #[.int .u16 0, .int .u16 0, .int .u16 0, .int .u16 0, .int .u16 0] 24 (0, 0))) (a b c d e : Int) :
    Row5 (((((x.setCell ⟨T, 0, none⟩ (.int .u16 a)).setCell ⟨T, 1, none⟩ (.int .u16 b)).setCell ⟨T, 2, none⟩ (.int .u16 c)).setCell ⟨T, 3, none⟩ (.int .u16 d)).setCell ⟨T, 4, none⟩ (.int .u16 e)) T a b c d e := by
  have h0 := heap_setCell_same x T 0 _ 24 (.int .u16 a) h
  have h1 := heap_setCell_same _ T 1 _ 24 (.int .u16 b) h0
  have h2 := heap_setCell_same _ T 2 _ 24 (.int .u16 c) h1
  have h3 := heap_setCell_same _ T 3 _ 24 (.int .u16 d) h2
  have h4 := heap_setCell_same _ T 4 _ 24 (.int .u16 e) h3
  exact h4
structure Two (w x : World) (T : Nat) (box : Array Value) (a b c d e : Int) : Prop where
  box : x.heap[w.heap.size]? = some (.cells box 28 (0, 0))
  tile : Row5 x T a b c d e
  below : Below w.heap.size w x
theorem Two.call {w x y : World} {T : Nat} {box : Array Value} {a b c d e : Int} (h : Two w x T box a b c d e) (hb : Below x.heap.size x y) : Two w y T box a b c d e :=
  ⟨old_in h.box hb, old_in h.tile hb, below_call h.below hb⟩
section
variable {w W w1 w2 : World} {box : Array Value} {a b c d e : Int}
theorem way1 (hb : W.heap[w.heap.size]? = some (.cells box 28 (0, 0))) (hW : Below w.heap.size w W) (z1 : Below W.drew.heap.size W.drew w1) (z2 : Below w1.heap.size w1 w2) :
    Two w (w2.alloc (.cells #[.int .u16 a, .int .u16 b, .int .u16 c, .int .u16 d, .int .u16 e] 24)) w2.heap.size box a b c d e := by
  have b1 : w1.heap[w.heap.size]? = some (.cells box 28 (0, 0)) := old_in (W := W.drew) hb z1
  have b2 : w2.heap[w.heap.size]? = some (.cells box 28 (0, 0)) := old_in b1 z2
  have g1 : Below w.heap.size w w1 := below_call (W := W.drew) hW.drew z1
  have g2 : Below w.heap.size w w2 := below_call g1 z2
  have hlt : w.heap.size < w2.heap.size := by
    rcases Nat.lt_or_ge w.heap.size w2.heap.size with q | q
    · exact q
    · rw [Array.getElem?_eq_none q] at b2
      cases b2
  exact ⟨by rw [heap_alloc_old _ _ hlt]; exact b2, heap_alloc_new _ _, g2.alloc (Nat.le_of_lt hlt) _⟩
theorem setCells_old (x : World) (T k : Nat) (h : k ≠ T) (v0 v1 v2 v3 v4 : Value) :
    (((((x.setCell ⟨T, 0, none⟩ v0).setCell ⟨T, 1, none⟩ v1).setCell ⟨T, 2, none⟩ v2).setCell ⟨T, 3, none⟩ v3).setCell ⟨T, 4, none⟩ v4).heap[k]? = x.heap[k]? := by
  rw [heap_setCell_other _ _ _ _ h, heap_setCell_other _ _ _ _ h, heap_setCell_other _ _ _ _ h, heap_setCell_other _ _ _ _ h, heap_setCell_other _ _ _ _ h]
theorem setCells_below {B : Nat} {x : World} (h : Below B w x) {T : Nat} (hT : B ≤ T) (v0 v1 v2 v3 v4 : Value) :
    Below B w (((((x.setCell ⟨T, 0, none⟩ v0).setCell ⟨T, 1, none⟩ v1).setCell ⟨T, 2, none⟩ v2).setCell ⟨T, 3, none⟩ v3).setCell ⟨T, 4, none⟩ v4) :=
  ((((h.setCell (p := ⟨T, 0, none⟩) hT _).setCell (p := ⟨T, 1, none⟩) hT _).setCell (p := ⟨T, 2, none⟩) hT _).setCell (p := ⟨T, 3, none⟩) hT _).setCell (p := ⟨T, 4, none⟩) hT _
theorem ways {x : World} {T : Nat} (b2 : x.heap[w.heap.size]? = some (.cells box 28 (0, 0))) (g2 : Below w.heap.size w x) (hT : w.heap.size < T) (h : x.heap[T]? = some (.cells #[.int .u16 0, .int .u16 0, .int .u16 0, .int .u16 0, .int .u16 0] 24 (0, 0))) :
    Two w (((((x.setCell ⟨T, 0, none⟩ (.int .u16 a)).setCell ⟨T, 1, none⟩ (.int .u16 b)).setCell ⟨T, 2, none⟩ (.int .u16 c)).setCell ⟨T, 3, none⟩ (.int .u16 d)).setCell ⟨T, 4, none⟩ (.int .u16 e)) T box a b c d e :=
  ⟨by rw [setCells_old _ _ _ (by omega)]; exact b2, row5_set h a b c d e, setCells_below g2 (by omega) _ _ _ _ _⟩
theorem lt_of_row {x : World} {k : Nat} {o : Obj} (h : x.heap[k]? = some o) : k < x.heap.size := by
  rcases Nat.lt_or_ge k x.heap.size with q | q
  · exact q
  · rw [Array.getElem?_eq_none q] at h
    cases h
theorem way2 (hb : W.heap[w.heap.size]? = some (.cells box 28 (0, 0))) (hW : Below w.heap.size w W) (z1 : Below W.drew.heap.size W.drew w1)
    (z2 : Below (w1.alloc (.cells #[.int .u16 0, .int .u16 0, .int .u16 0, .int .u16 0, .int .u16 0] 24)).heap.size (w1.alloc (.cells #[.int .u16 0, .int .u16 0, .int .u16 0, .int .u16 0, .int .u16 0] 24)) w2) :
    Two w (((((w2.setCell ⟨w1.heap.size, 0, none⟩ (.int .u16 a)).setCell ⟨w1.heap.size, 1, none⟩ (.int .u16 b)).setCell ⟨w1.heap.size, 2, none⟩ (.int .u16 c)).setCell ⟨w1.heap.size, 3, none⟩ (.int .u16 d)).setCell ⟨w1.heap.size, 4, none⟩ (.int .u16 e)) w1.heap.size box a b c d e := by
  have b1 : w1.heap[w.heap.size]? = some (.cells box 28 (0, 0)) := old_in (W := W.drew) hb z1
  have g1 : Below w.heap.size w w1 := below_call (W := W.drew) hW.drew z1
  have hlt := lt_of_row b1
  have b2 : w2.heap[w.heap.size]? = some (.cells box 28 (0, 0)) := old_in (W := w1.alloc _) (by rw [heap_alloc_old _ _ hlt]; exact b1) z2
  exact ways b2 (below_new g1 (Nat.le_of_lt hlt) z2) hlt (new_in z2)
theorem way3 (hb : W.heap[w.heap.size]? = some (.cells box 28 (0, 0))) (hW : Below w.heap.size w W)
    (z1 : Below (W.drew.alloc (.cells #[.int .u16 0, .int .u16 0, .int .u16 0, .int .u16 0, .int .u16 0] 24)).heap.size (W.drew.alloc (.cells #[.int .u16 0, .int .u16 0, .int .u16 0, .int .u16 0, .int .u16 0] 24)) w1) (z2 : Below w1.heap.size w1 w2) :
    Two w (((((w2.setCell ⟨W.heap.size, 0, none⟩ (.int .u16 a)).setCell ⟨W.heap.size, 1, none⟩ (.int .u16 b)).setCell ⟨W.heap.size, 2, none⟩ (.int .u16 c)).setCell ⟨W.heap.size, 3, none⟩ (.int .u16 d)).setCell ⟨W.heap.size, 4, none⟩ (.int .u16 e)) W.heap.size box a b c d e := by
  have hlt := lt_of_row hb
  have b1 : w1.heap[w.heap.size]? = some (.cells box 28 (0, 0)) := old_in (W := W.drew.alloc _) ((heap_alloc_old W.drew _ hlt).trans hb) z1
  have t1 : w1.heap[W.heap.size]? = some (.cells #[.int .u16 0, .int .u16 0, .int .u16 0, .int .u16 0, .int .u16 0] 24 (0, 0)) := new_in (W := W.drew) z1
  have g1 : Below w.heap.size w w1 := below_new (W := W.drew) hW.drew (Nat.le_of_lt hlt) z1
  exact ways (old_in b1 z2) (below_call g1 z2) hlt (old_in t1 z2)
end
/-! The contracts, from a world below W. -/
theorem below_in {P : Program} {f : FuncId} {args : Array Value} {v : Value} {W x : World} (hx : Below W.heap.size W x) (h : Calls P f args x fun e y => e = .returned v ∧ Below x.heap.size x y) :
    Calls P f args x fun e y => e = .returned v ∧ Below W.heap.size W y := h.mono fun _ _ h => ⟨h.1, below_call hx h.2⟩
end Go.Proofs.Ytnmobjjinidmiaa
