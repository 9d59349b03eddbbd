/- How the law's arguments read: a tile, and an Ask, by value: all of it numbers and bools, no memory. -/
import Derived.Test.YtnmobjjinidmiaaRows
import Derived.WalkKit
import Derived.ProofKit
import Derived.OpenShut
import Derived.Lib.SmallJoins
namespace Go.Proofs.Ytnmobjjinidmiaa
open Go.ChangeShapes Go.WideShapes Go.ChangeAt Go.RowKit
theorem own : ownKnob Try.prog.godebug = none := by kernel_rfl
theorem cells28 : Try.prog.cellsOf 28 = 12 := by kernel_rfl
theorem cells26 : Try.prog.cellsOf 26 = 2 := by kernel_rfl
theorem cells24 : Try.prog.cellsOf 24 = 5 := by kernel_rfl
theorem cells22 : Try.prog.cellsOf 22 = 1 := by kernel_rfl
theorem cells5 : Try.prog.cellsOf 5 = 1 := by kernel_rfl
theorem cells4 : Try.prog.cellsOf 4 = 1 := by kernel_rfl
theorem laidOut : laidOutB Try.prog = true := by kernel_rfl
theorem rr28 : Try.prog.readableRec 28 = true := by kernel_rfl
theorem rr24 : Try.prog.readableRec 24 = true := by kernel_rfl
theorem tsz28 : 28 < Try.prog.types.size := of_decide_eq_true (by kernel_rfl)
theorem tsz24 : 24 < Try.prog.types.size := of_decide_eq_true (by kernel_rfl)
section
variable {H : Type} {enc : TypeId × Value → H} {w : World} {base : Nat} {spare : Nat → Bool} {held : Bool}
theorem trod_tile {fuel : Nat} {cs : List Value} {x : DataW H × List MemPlace} (h : DataW.trod enc Try.prog w base spare held fuel 24 cs = some x) :
    ∃ a b c d e : Int, cs = [.int .u16 a, .int .u16 b, .int .u16 c, .int .u16 d, .int .u16 e] ∧ x.2 = [] ∧ (Lit.int .u16 a).wf = true ∧ (Lit.int .u16 b).wf = true ∧ (Lit.int .u16 c).wf = true ∧ (Lit.int .u16 d).wf = true ∧ (Lit.int .u16 e).wf = true := by
  obtain ⟨xs, n, _, rfl, hl, hlen, hf⟩ := DataW.trod_struct Try.underlying24 h
  rw [cells24] at hl
  match cs, hl with
  | [c0, c1, c2, c3, c4], _ =>
    match xs, hlen with
    | [y0, y1, y2, y3, y4], _ =>
      have h0 := hf 0 _ rfl
      have h1 := hf 1 _ rfl
      have h2 := hf 2 _ rfl
      have h3 := hf 3 _ rfl
      have h4 := hf 4 _ rfl
      simp [cells22] at h0 h1 h2 h3 h4
      obtain ⟨a, e0, rfl, w0⟩ := DataW.trod_int Try.underlying22 h0
      obtain ⟨b, e1, rfl, w1⟩ := DataW.trod_int Try.underlying22 h1
      obtain ⟨c, e2, rfl, w2⟩ := DataW.trod_int Try.underlying22 h2
      obtain ⟨d, e3, rfl, w3⟩ := DataW.trod_int Try.underlying22 h3
      obtain ⟨e, e4, rfl, w4⟩ := DataW.trod_int Try.underlying22 h4
      simp only [List.cons.injEq, and_true] at e0 e1 e2 e3 e4
      subst e0 e1 e2 e3 e4
      exact ⟨a, b, c, d, e, rfl, rfl, w0, w1, w2, w3, w4⟩
theorem trod_byte {fuel : Nat} {cs : List Value} {x : DataW H × List MemPlace} (h : DataW.trod enc Try.prog w base spare held fuel 26 cs = some x) :
    ∃ (v : Int) (s : Bool), cs = [.int .u8 v, .bool s] ∧ x.2 = [] ∧ (Lit.int .u8 v).wf = true := by
  obtain ⟨xs, n, _, rfl, hl, hlen, hf⟩ := DataW.trod_struct Try.underlying26 h
  rw [cells26] at hl
  match cs, hl with
  | [c0, c1], _ =>
    match xs, hlen with
    | [y0, y1], _ =>
      have h0 := hf 0 _ rfl
      have h1 := hf 1 _ rfl
      simp [cells5, cells4] at h0 h1
      obtain ⟨v, e0, rfl, w0⟩ := DataW.trod_int Try.underlying5 h0
      obtain ⟨s, e1, rfl⟩ := DataW.trod_bool Try.underlying4 h1
      simp only [List.cons.injEq, and_true] at e0 e1
      subst e0 e1
      exact ⟨v, s, rfl, rfl, w0⟩
theorem trod_ask {fuel : Nat} {cs : List Value} {x : DataW H × List MemPlace} (h : DataW.trod enc Try.prog w base spare held fuel 28 cs = some x) :
    ∃ (a b c d e lv : Int) (ls : Bool) (hv : Int) (hs : Bool) (ti : Int) (s : Bool) (u : Int), cs = [.int .u16 a, .int .u16 b, .int .u16 c, .int .u16 d, .int .u16 e, .int .u8 lv, .bool ls, .int .u8 hv, .bool hs, .int .u8 ti, .bool s, .int .u8 u] ∧ x.2 = [] ∧
      (Lit.int .u16 a).wf = true ∧ (Lit.int .u16 b).wf = true ∧ (Lit.int .u16 c).wf = true ∧ (Lit.int .u16 d).wf = true ∧ (Lit.int .u16 e).wf = true ∧ (Lit.int .u8 lv).wf = true ∧ (Lit.int .u8 hv).wf = true ∧ (Lit.int .u8 ti).wf = true ∧ (Lit.int .u8 u).wf = true := by
  obtain ⟨xs, n, _, rfl, hl, hlen, hf⟩ := DataW.trod_struct Try.underlying28 h
  rw [cells28] at hl
  match cs, hl with
  | [c0, c1, c2, c3, c4, c5, c6, c7, c8, c9, c10, c11], _ =>
    match xs, hlen with
    | [y0, y1, y2, y3, y4, y5], _ =>
      have h0 := hf 0 _ rfl
      have h1 := hf 1 _ rfl
      have h2 := hf 2 _ rfl
      have h3 := hf 3 _ rfl
      have h4 := hf 4 _ rfl
      have h5 := hf 5 _ rfl
      simp [cells24, cells26, cells5, cells4] at h0 h1 h2 h3 h4 h5
      obtain ⟨a, b, c, d, e, e0, p0, w0, w1, w2, w3, w4⟩ := trod_tile h0
      obtain ⟨lv, ls, e1, p1, w5⟩ := trod_byte h1
      obtain ⟨hv, hs, e2, p2, w6⟩ := trod_byte h2
      obtain ⟨ti, e3, rfl, w7⟩ := DataW.trod_int Try.underlying5 h3
      obtain ⟨s, e4, rfl⟩ := DataW.trod_bool Try.underlying4 h4
      obtain ⟨u, e5, rfl, w8⟩ := DataW.trod_int Try.underlying5 h5
      simp only [List.cons.injEq, and_true] at e0 e1 e2 e3 e4 e5
      obtain ⟨rfl, rfl, rfl, rfl, rfl⟩ := e0
      obtain ⟨rfl, rfl⟩ := e1
      obtain ⟨rfl, rfl⟩ := e2
      subst e3 e4 e5
      exact ⟨a, b, c, d, e, lv, ls, hv, hs, ti, s, u, rfl, by simp [p0, p1, p2], w0, w1, w2, w3, w4, w5, w6, w7, w8⟩
theorem open_tile {r : Reach} {b0 : Nat} {v : Value} {d : DataW H} {p : List MemPlace} (hv : Value.okWide Try.prog w r b0 24 v) (h : DataW.Trod enc Try.prog w base spare held 24 v d p) :
    ∃ a b c d e : Int, v = .agg #[.int .u16 a, .int .u16 b, .int .u16 c, .int .u16 d, .int .u16 e] ∧ p = [] ∧ (Lit.int .u16 a).wf = true ∧ (Lit.int .u16 b).wf = true ∧ (Lit.int .u16 c).wf = true ∧ (Lit.int .u16 d).wf = true ∧ (Lit.int .u16 e).wf = true := by
  obtain ⟨cs, rfl, _⟩ := okWide_struct Try.underlying24 hv
  obtain ⟨fuel, hf⟩ := h
  obtain ⟨a, b, c, d, e, hcs, hp, hw⟩ := trod_tile hf
  refine ⟨a, b, c, d, e, ?_, hp, hw⟩
  have : cs.toList = _ := hcs
  rw [show cs = cs.toList.toArray from by simp, this]
theorem open_ask {r : Reach} {b0 : Nat} {v : Value} {d : DataW H} {p : List MemPlace} (hv : Value.okWide Try.prog w r b0 28 v) (h : DataW.Trod enc Try.prog w base spare held 28 v d p) :
    ∃ (a b c d e lv : Int) (ls : Bool) (hv : Int) (hs : Bool) (ti : Int) (s : Bool) (u : Int), v = .agg #[.int .u16 a, .int .u16 b, .int .u16 c, .int .u16 d, .int .u16 e, .int .u8 lv, .bool ls, .int .u8 hv, .bool hs, .int .u8 ti, .bool s, .int .u8 u] ∧ p = [] ∧
      (Lit.int .u16 a).wf = true ∧ (Lit.int .u16 b).wf = true ∧ (Lit.int .u16 c).wf = true ∧ (Lit.int .u16 d).wf = true ∧ (Lit.int .u16 e).wf = true ∧ (Lit.int .u8 lv).wf = true ∧ (Lit.int .u8 hv).wf = true ∧ (Lit.int .u8 ti).wf = true ∧ (Lit.int .u8 u).wf = true := by
  obtain ⟨cs, rfl, _⟩ := okWide_struct Try.underlying28 hv
  obtain ⟨fuel, hf⟩ := h
  obtain ⟨a, b, c, d, e, lv, ls, hv', hs, ti, s, u, hcs, hp, hw⟩ := trod_ask hf
  refine ⟨a, b, c, d, e, lv, ls, hv', hs, ti, s, u, ?_, hp, hw⟩
  have : cs.toList = _ := hcs
  rw [show cs = cs.toList.toArray from by simp, this]
end
section
variable {H : Type} {enc : TypeId × Value → H}
theorem stay28 {W W' : World} {sp : Nat → Bool} {v : Value} {d : DataW H} (h : DataW.Trod enc Try.prog W 0 (fun _ => true) true 28 v d []) : DataW.Trod enc Try.prog W' 0 sp true 28 v d [] :=
  WideElems.Trod_stays laidOut rr28 tsz28 h (fun _ hp => by cases hp) (fun _ hp => by cases hp)
theorem stay24 {W W' : World} {sp : Nat → Bool} {v : Value} {d : DataW H} (h : DataW.Trod enc Try.prog W 0 (fun _ => true) true 24 v d []) : DataW.Trod enc Try.prog W' 0 sp true 24 v d [] :=
  WideElems.Trod_stays laidOut rr24 tsz24 h (fun _ hp => by cases hp) (fun _ hp => by cases hp)
end
end Go.Proofs.Ytnmobjjinidmiaa
