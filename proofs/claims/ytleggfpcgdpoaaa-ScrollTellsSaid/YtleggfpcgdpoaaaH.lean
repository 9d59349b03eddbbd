/- Two blocks made by a statement 'x, y := f(..), g(..)' whose order is drawn: small lemmas that close each order; and the reference's Do up to its switch. -/
import Derived.Test.YtleggfpcgdpoaaaG
import Derived.Deep.DeepCutAuto
import Derived.Deep.RegionHeld3
import Derived.BigQuiet
namespace Go.Proofs.Ytleggfpcgdpoaaa
open Go.ChangeShapes Go.WideShapes Go.ChangeAt Go.RowKit
set_option linter.unusedVariables false
theorem bcell {w w' : World} (h : Below w.heap.size w w') : (∀ b o, b < w.heap.size → w'.cell? ⟨b, o, none⟩ = w.cell? ⟨b, o, none⟩) ∧ (∀ b o, b < w.heap.size → w'.frozen? ⟨b, o, none⟩ = w.frozen? ⟨b, o, none⟩) :=
  ⟨fun b o hb => h.cell (p := ⟨b, o, none⟩) hb, fun b o hb => h.frozen (p := ⟨b, o, none⟩) hb⟩
theorem below_set {B : Nat} {a w : World} (h : Below B a w) {g j : Nat} (hg : B ≤ g) (v : Value) : Below B a (w.setCell ⟨g, j, none⟩ v) := h.setCell (p := ⟨g, j, none⟩) hg v
theorem at_drew {x : World} {k : Nat} {o : Obj} (h : x.heap[k]? = some o) : x.drew.heap[k]? = some o := h
theorem at_new1 (x : World) (o : Obj) : (x.alloc o).heap[x.heap.size]? = some o := heap_alloc_new _ _
theorem at_newn (x : World) (o : Obj) {n : Nat} (h : x.heap.size = n) : (x.alloc o).heap[n]? = some o := by
  subst h
  exact heap_alloc_new _ _
theorem at_new2 (x : World) (o p : Obj) : ((x.alloc o).alloc p).heap[x.heap.size + 1]? = some p := by
  have h := heap_alloc_new (x.alloc o) p
  rwa [World.size_alloc] at h
theorem set5_same {x : World} {X : Nat} {c0 c1 c2 c3 c4 : Value} {t : TypeId} (h : x.heap[X]? = some (.cells #[c0, c1, c2, c3, c4] t (0, 0))) (a b c d e : Value) :
    (((((x.setCell ⟨X, 0, none⟩ a).setCell ⟨X, 1, none⟩ b).setCell ⟨X, 2, none⟩ c).setCell ⟨X, 3, none⟩ d).setCell ⟨X, 4, none⟩ e).heap[X]? = some (.cells #[a, b, c, d, e] t (0, 0)) := by
  have h0 := heap_setCell_same x X 0 _ t a h
  have h1 := heap_setCell_same _ X 1 _ t b h0
  have h2 := heap_setCell_same _ X 2 _ t c h1
  have h3 := heap_setCell_same _ X 3 _ t d h2
  have h4 := heap_setCell_same _ X 4 _ t e h3
  exact h4
theorem set5_other {x : World} {X k : Nat} {o : Obj} (hk : k ≠ X) (h : x.heap[k]? = some o) (a b c d e : Value) :
    (((((x.setCell ⟨X, 0, none⟩ a).setCell ⟨X, 1, none⟩ b).setCell ⟨X, 2, none⟩ c).setCell ⟨X, 3, none⟩ d).setCell ⟨X, 4, none⟩ e).heap[k]? = some o := by
  rw [heap_setCell_other _ _ _ _ hk, heap_setCell_other _ _ _ _ hk, heap_setCell_other _ _ _ _ hk, heap_setCell_other _ _ _ _ hk, heap_setCell_other _ _ _ _ hk]
  exact h
theorem set5_zero {x : World} {X : Nat} (h : x.heap[X]? = some (.cells #[.int .i64 0, .int .i64 0, .int .i64 0, .int .i64 0, .int .i64 0] 41 (0, 0))) (a b c d e : Value) :
    (((((x.setCell ⟨X, 0, none⟩ a).setCell ⟨X, 1, none⟩ b).setCell ⟨X, 2, none⟩ c).setCell ⟨X, 3, none⟩ d).setCell ⟨X, 4, none⟩ e).heap[X]? = some (.cells #[a, b, c, d, e] 41 (0, 0)) := set5_same h a b c d e
/-- the reference's two numbers taken apart, in blocks of their own -/
structure Par (w y : World) (T V : Nat) (box row row' : Array Value) : Prop where
  box : y.heap[w.heap.size]? = some (.cells box 24 (0, 0))
  res : y.heap[w.heap.size + 1]? = some (.cells #[.int .u16 0, .int .u16 0, .int .u8 0, .bool false] 24 (0, 0))
  t : y.heap[T]? = some (.cells row 41 (0, 0))
  v : y.heap[V]? = some (.cells row' 41 (0, 0))
  below : Below w.heap.size w y
  hT : w.heap.size + 1 < T
  hV : w.heap.size + 1 < V
  ne : T ≠ V
end Go.Proofs.Ytleggfpcgdpoaaa
