/- Single steps of the kit's walk of a quiet region (Derived/Deep/Quiet.lean), for the class of worlds that are as W below W's size. -/
import Derived.Test.YtbekiknbjpdchaaLg
import Derived.Deep.Quiet
import Derived.Deep.QuietTactic
namespace Go.Proofs.Ytbekiknbjpdchaa
open Go.RowKit
section
variable {P : Program} {ops : Array Oper} {C : World → Prop} {R : Act → Prop} {o : Oper} {rest : List Oper} {a : Act}
theorem quiet_yes (v : Value) (hw : Region.wanted o (yielded ops a.tmps) = true) (h : ∀ w, C w → o.quietAt P a C w v) (hK : wpQuiet P ops C R rest (a.put o.dst v)) : wpQuiet P ops C R (o :: rest) a := by
  unfold wpQuiet
  rw [if_pos hw]
  exact ⟨v, h, hK⟩
end
/-- a region that draws, whose operations read and whose calls make new memory: the worlds that are as W below W's size -/
theorem wp_region_below {P : Program} {id : Nat} {Q : Exit → Act → World → Prop} {a : Act} {W : World} {l : List Oper} (hm : P.follows .mixedOrders = true) (hB : Region.lexB .any l.toArray = true)
    (h : wpQuiet P l.toArray (fun x => Below W.heap.size W x) (fun b => ∀ x, Below W.heap.size W x → Q .normal b x) l a) : (Code.region id l.toArray true).wp P Q a W :=
  wp_region_quiet (C := fun x => Below W.heap.size W x) hm hB (Below.refl _ _).drew (by simpa using h)
theorem below_in {P : Program} {f : FuncId} {args : Array Value} {v : Value} {W x : World} (hx : Below W.heap.size W x) (h : Calls P f args x fun e y => e = .returned v ∧ Below x.heap.size x y) :
    Calls P f args x fun e y => e = .returned v ∧ Below W.heap.size W y := h.mono fun _ _ h => ⟨h.1, below_call hx h.2⟩
end Go.Proofs.Ytbekiknbjpdchaa
