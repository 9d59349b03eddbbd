/- How the laws' arguments read: a scroll by value: numbers and a bool, no memory. -/
import Derived.Test.YtleggfpcgdpoaaaRows
import Derived.WalkKit
import Derived.ProofKit
import Derived.OpenShut
import Derived.Lib.SmallJoins
namespace Go.Proofs.Ytleggfpcgdpoaaa
open Go.ChangeShapes Go.WideShapes Go.ChangeAt Go.RowKit
theorem own : ownKnob Try.prog.godebug = none := by kernel_rfl
theorem cells24 : Try.prog.cellsOf 24 = 4 := by kernel_rfl
theorem cells22 : Try.prog.cellsOf 22 = 1 := by kernel_rfl
theorem cells5 : Try.prog.cellsOf 5 = 1 := by kernel_rfl
theorem cells4 : Try.prog.cellsOf 4 = 1 := by kernel_rfl
theorem laidOut : laidOutB Try.prog = true := by kernel_rfl
theorem rr24 : Try.prog.readableRec 24 = true := by kernel_rfl
theorem tsz24 : 24 < Try.prog.types.size := of_decide_eq_true (by kernel_rfl)
section
variable {H : Type} {enc : TypeId × Value → H} {w : World} {base : Nat} {spare : Nat → Bool} {held : Bool}
theorem trod_scroll {fuel : Nat} {cs : List Value} {x : DataW H × List MemPlace} (h : DataW.trod enc Try.prog w base spare held fuel 24 cs = some x) :
    ∃ (v t y : Int) (b : Bool), cs = [.int .u16 v, .int .u16 t, .int .u8 y, .bool b] ∧ x.2 = [] ∧ (Lit.int .u16 v).wf = true ∧ (Lit.int .u16 t).wf = true ∧ (Lit.int .u8 y).wf = true := by
  obtain ⟨xs, n, _, rfl, hl, hlen, hf⟩ := DataW.trod_struct Try.underlying24 h
  rw [cells24] at hl
  match cs, hl with
  | [c0, c1, c2, c3], _ =>
    match xs, hlen with
    | [y0, y1, y2, y3], _ =>
      have h0 := hf 0 _ rfl
      have h1 := hf 1 _ rfl
      have h2 := hf 2 _ rfl
      have h3 := hf 3 _ rfl
      simp [cells22, cells5, cells4] at h0 h1 h2 h3
      obtain ⟨v, e0, rfl, w0⟩ := DataW.trod_int Try.underlying22 h0
      obtain ⟨t, e1, rfl, w1⟩ := DataW.trod_int Try.underlying22 h1
      obtain ⟨y, e2, rfl, w2⟩ := DataW.trod_int Try.underlying5 h2
      obtain ⟨b, e3, rfl⟩ := DataW.trod_bool Try.underlying4 h3
      simp only [List.cons.injEq, and_true] at e0 e1 e2 e3
      subst e0 e1 e2 e3
      exact ⟨v, t, y, b, rfl, rfl, w0, w1, w2⟩
theorem open_scroll {r : Reach} {b0 : Nat} {v : Value} {d : DataW H} {p : List MemPlace} (hv : Value.okWide Try.prog w r b0 24 v) (h : DataW.Trod enc Try.prog w base spare held 24 v d p) :
    ∃ (n t y : Int) (b : Bool), v = .agg #[.int .u16 n, .int .u16 t, .int .u8 y, .bool b] ∧ p = [] ∧ (Lit.int .u16 n).wf = true ∧ (Lit.int .u16 t).wf = true ∧ (Lit.int .u8 y).wf = true := by
  obtain ⟨cs, rfl, _⟩ := okWide_struct Try.underlying24 hv
  obtain ⟨fuel, hf⟩ := h
  obtain ⟨n, t, y, b, hcs, hp, hw⟩ := trod_scroll hf
  refine ⟨n, t, y, b, ?_, hp, hw⟩
  have : cs.toList = _ := hcs
  rw [show cs = cs.toList.toArray from by simp, this]
end
section
variable {H : Type} {enc : TypeId × Value → H}
theorem stay24 {W W' : World} {sp : Nat → Bool} {v : Value} {d : DataW H} (h : DataW.Trod enc Try.prog W 0 (fun _ => true) true 24 v d []) : DataW.Trod enc Try.prog W' 0 sp true 24 v d [] :=
  WideElems.Trod_stays laidOut rr24 tsz24 h (fun _ hp => by cases hp) (fun _ hp => by cases hp)
end
end Go.Proofs.Ytleggfpcgdpoaaa
