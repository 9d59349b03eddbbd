/-
  TileAlike: at every input the law returns true and leaves its arguments as they were. No condition.
-/
import Derived.Test.YtnmobjjinidmiaaV
import Derived.Test.YtnmobjjinidmiaaQu
import Derived.Test.YtnmobjjinidmiaaF
import Derived.Test.YtnmobjjinidmiaaPl6
import Derived.OpenShut
import Derived.BigQuiet
namespace Go.Proofs.Ytnmobjjinidmiaa.tileAlike
open Go.Proofs.Ytnmobjjinidmiaa
open Go.ChangeShapes Go.WideShapes Go.ChangeAt Go.RowKit
set_option linter.unusedVariables false
theorem old_new {x : World} {g : Nat} {o : Obj} (h : x.heap[g]? = some o) (p : Obj) : (x.alloc p).heap[g]? = some o := (heap_alloc_old _ _ (lt_of_row h)).trans h
theorem frozen_of {x : World} {g : Nat} {cs : Array Value} {t : TypeId} (h : x.heap[g]? = some (.cells cs t (0, 0))) : ∀ j, x.frozen? ⟨g, j, none⟩ = false := fun j => by simp [World.frozen?, h]
structure Tri (w x : World) (T P : Nat) (box t p : Array Value) : Prop where
  box : x.heap[w.heap.size]? = some (.cells box 28 (0, 0))
  t : x.heap[T]? = some (.cells t 24 (0, 0))
  p : x.heap[P]? = some (.cells p 28 (0, 0))
  below : Below w.heap.size w x
  hT : w.heap.size < T
  hP : w.heap.size < P
  ne : T ≠ P
theorem Tri.start1 (w : World) (box t p : Array Value) : Tri w (((w.alloc (.cells box 28)).alloc (.cells t 24)).alloc (.cells p 28)).drew (w.heap.size + 1) (w.heap.size + 1 + 1) box t p :=
  ⟨old_new (heap_alloc2_old _ _ _) _, old_new (by have h := heap_alloc_new (w.alloc (.cells box 28)) (.cells t 24); rwa [World.size_alloc] at h) _, by have h := heap_alloc_new ((w.alloc (.cells box 28)).alloc (.cells t 24)) (.cells p 28); rwa [World.size_alloc, World.size_alloc] at h, by go_grown, by omega, by omega, by omega⟩
theorem Tri.start2 (w : World) (box t p : Array Value) : Tri w (((w.alloc (.cells box 28)).alloc (.cells p 28)).alloc (.cells t 24)).drew (w.heap.size + 1 + 1) (w.heap.size + 1) box t p :=
  ⟨old_new (heap_alloc2_old _ _ _) _, by have h := heap_alloc_new ((w.alloc (.cells box 28)).alloc (.cells p 28)) (.cells t 24); rwa [World.size_alloc, World.size_alloc] at h, old_new (by have h := heap_alloc_new (w.alloc (.cells box 28)) (.cells p 28); rwa [World.size_alloc] at h) _, by go_grown, by omega, by omega, by omega⟩
theorem Tri.four {w x : World} {T P : Nat} {box p : Array Value} {a b c d e : Value} (h : Tri w x T P box #[a, b, c, d, e] p) (a' b' c' d' : Value) :
    Tri w ((((x.setCell ⟨T, 0, none⟩ a').setCell ⟨T, 1, none⟩ b').setCell ⟨T, 2, none⟩ c').setCell ⟨T, 3, none⟩ d') T P box #[a', b', c', d', e] p := by
  have h0 := heap_setCell_same x T 0 _ 24 a' h.t
  have h1 := heap_setCell_same _ T 1 _ 24 b' h0
  have h2 := heap_setCell_same _ T 2 _ 24 c' h1
  have h3 := heap_setCell_same _ T 3 _ 24 d' h2
  have hT := h.hT
  have hne : P ≠ T := fun q => h.ne q.symm
  have hk : w.heap.size ≠ T := by omega
  refine ⟨?_, h3, ?_, ?_, h.hT, h.hP, h.ne⟩
  · rw [heap_setCell_other _ _ _ _ hk, heap_setCell_other _ _ _ _ hk, heap_setCell_other _ _ _ _ hk, heap_setCell_other _ _ _ _ hk]
    exact h.box
  · rw [heap_setCell_other _ _ _ _ hne, heap_setCell_other _ _ _ _ hne, heap_setCell_other _ _ _ _ hne, heap_setCell_other _ _ _ _ hne]
    exact h.p
  · exact (((h.below.setCell (p := ⟨T, 0, none⟩) (Nat.le_of_lt hT) _).setCell (p := ⟨T, 1, none⟩) (Nat.le_of_lt hT) _).setCell (p := ⟨T, 2, none⟩) (Nat.le_of_lt hT) _).setCell (p := ⟨T, 3, none⟩) (Nat.le_of_lt hT) _
theorem Tri.one {w x : World} {T P : Nat} {box t : Array Value} {p p' : Array Value} (k : Nat) (v : Value) (h : Tri w x T P box t p) (hp : p.setIfInBounds k v = p') : Tri w (x.setCell ⟨P, k, none⟩ v) T P box t p' := by
  have h0 := heap_setCell_same x P k _ 28 v h.p
  have hP := h.hP
  have hne : T ≠ P := h.ne
  have hk : w.heap.size ≠ P := by omega
  refine ⟨?_, ?_, ?_, h.below.setCell (p := ⟨P, k, none⟩) (Nat.le_of_lt hP) _, h.hT, h.hP, h.ne⟩
  · rw [heap_setCell_other _ _ _ _ hk]
    exact h.box
  · rw [heap_setCell_other _ _ _ _ hne]
    exact h.t
  · rw [← hp]
    exact h0
theorem Tri.call {w x y : World} {T P : Nat} {box t p : Array Value} (h : Tri w x T P box t p) (hb : Below x.heap.size x y) : Tri w y T P box t p :=
  ⟨old_in h.box hb, old_in h.t hb, old_in h.p hb, below_call h.below hb, h.hT, h.hP, h.ne⟩
theorem lt_a {x y : Nat} (h : x + 1 + 1 ≤ y) : x + 1 < y ∧ x < y ∧ x + 1 ≤ y ∧ x ≤ y := ⟨by omega, by omega, by omega, by omega⟩
theorem lt_b {x y : Nat} (h : x + 1 ≤ y) : x < y ∧ x ≤ y := ⟨by omega, by omega⟩
theorem below_set {B : Nat} {a w : World} (h : Below B a w) {g j : Nat} (hg : B ≤ g) (v : Value) : Below B a (w.setCell ⟨g, j, none⟩ v) := h.setCell (p := ⟨g, j, none⟩) hg v
theorem at_drew {x : World} {k : Nat} {o : Obj} (h : x.heap[k]? = some o) : x.drew.heap[k]? = some o := h
theorem at_new1 (x : World) (o : Obj) : (x.alloc o).heap[x.heap.size]? = some o := heap_alloc_new _ _
theorem at_newn (x : World) (o : Obj) {n : Nat} (h : x.heap.size = n) : (x.alloc o).heap[n]? = some o := by
  subst h
  exact heap_alloc_new _ _
theorem at_new2 (x : World) (o p : Obj) : ((x.alloc o).alloc p).heap[x.heap.size + 1]? = some p := by
  have h := heap_alloc_new (x.alloc o) p
  rwa [World.size_alloc] at h
theorem set5_zero {x : World} {X : Nat} (h : x.heap[X]? = some (.cells #[.int .u16 0, .int .u16 0, .int .u16 0, .int .u16 0, .int .u16 0] 24 (0, 0))) (a b c d e : Value) :
    (((((x.setCell ⟨X, 0, none⟩ a).setCell ⟨X, 1, none⟩ b).setCell ⟨X, 2, none⟩ c).setCell ⟨X, 3, none⟩ d).setCell ⟨X, 4, none⟩ e).heap[X]? = some (.cells #[a, b, c, d, e] 24 (0, 0)) := by
  have h0 := heap_setCell_same x X 0 _ _ a h
  have h1 := heap_setCell_same _ X 1 _ _ b h0
  have h2 := heap_setCell_same _ X 2 _ _ c h1
  have h3 := heap_setCell_same _ X 3 _ _ d h2
  have h4 := heap_setCell_same _ X 4 _ _ e h3
  exact h4
theorem set5_other {x : World} {X k : Nat} {o : Obj} (hk : k ≠ X) (h : x.heap[k]? = some o) (a b c d e : Value) :
    (((((x.setCell ⟨X, 0, none⟩ a).setCell ⟨X, 1, none⟩ b).setCell ⟨X, 2, none⟩ c).setCell ⟨X, 3, none⟩ d).setCell ⟨X, 4, none⟩ e).heap[k]? = some o := by
  rw [heap_setCell_other _ _ _ _ hk, heap_setCell_other _ _ _ _ hk, heap_setCell_other _ _ _ _ hk, heap_setCell_other _ _ _ _ hk, heap_setCell_other _ _ _ _ hk]
  exact h
structure Duo (w x : World) (X Y : Nat) (t t' : Array Value) : Prop where
  t : x.heap[X]? = some (.cells t 24 (0, 0))
  t' : x.heap[Y]? = some (.cells t' 24 (0, 0))
  below : Below w.heap.size w x

set_option maxRecDepth 100000 in
set_option maxHeartbeats 8000000 in
theorem walk (a : Int) (b : Int) (c : Int) (d : Int) (e : Int) (lv : Int) (ls : Bool) (hv : Int) (hs : Bool) (ti : Int) (s : Bool) (u : Int) (w_a : (Lit.int .u16 a).wf = true) (w_b : (Lit.int .u16 b).wf = true) (w_c : (Lit.int .u16 c).wf = true) (w_d : (Lit.int .u16 d).wf = true) (w_e : (Lit.int .u16 e).wf = true) (w_lv : (Lit.int .u8 lv).wf = true) (w_hv : (Lit.int .u8 hv).wf = true) (w_ti : (Lit.int .u8 ti).wf = true) (w_u : (Lit.int .u8 u).wf = true) (n2 : Int) (w_n2 : (Lit.int .u16 n2).wf = true) (w : World) :
    Calls Try.prog 7 #[.agg #[.int .u16 a, .int .u16 b, .int .u16 c, .int .u16 d, .int .u16 e, .int .u8 lv, .bool ls, .int .u8 hv, .bool hs, .int .u8 ti, .bool s, .int .u8 u], .int .u16 n2] w fun r w' => r = .returned (.bool true) ∧ Below w.heap.size w w' := by
  obtain ⟨a0, a1⟩ := bounds_u16 w_a
  obtain ⟨b0, b1⟩ := bounds_u16 w_b
  obtain ⟨c0, c1⟩ := bounds_u16 w_c
  obtain ⟨d0, d1⟩ := bounds_u16 w_d
  obtain ⟨e0, e1⟩ := bounds_u16 w_e
  obtain ⟨n0, n1⟩ := bounds_u16 w_n2
  obtain ⟨l0, l1⟩ := bounds_u8 w_lv
  obtain ⟨h0, h1⟩ := bounds_u8 w_hv
  obtain ⟨t0, t1⟩ := bounds_u8 w_ti
  obtain ⟨u0, u1⟩ := bounds_u8 w_u
  clear w_a w_b w_c w_d w_e w_u w_lv w_hv w_ti w_n2
  obtain ⟨m, oa, ob, oc, od, xl, xh, fm, fa, fb, fc, fd, fl, fh, ⟨m0, m1⟩, ⟨oa0, oa1⟩, ⟨ob0, ob1⟩, ⟨oc0, oc1⟩, ⟨od0, od1⟩, ⟨xl0, xl1⟩, ⟨xh0, xh1⟩, hal⟩ := made a b c d e n2 lv hv a0 a1 b0 b1 c0 c1 d0 d1 e0 e1 n0 n1 l0 l1 h0 h1
  go_enter Try.func7, Try.ntmps7
  go_upto_region 1 with fail
  go_cut [5, 6] (fun p q x => ∃ T P : Nat, p = .pointer (some ⟨T, 0, none⟩) ∧ q = .pointer (some ⟨P, 0, none⟩) ∧ Hid (Tri w x T P #[.int .u16 a, .int .u16 b, .int .u16 c, .int .u16 d, .int .u16 e, .int .u8 lv, .bool ls, .int .u8 hv, .bool hs, .int .u8 ti, .bool s, .int .u8 u] #[.int .u16 a, .int .u16 b, .int .u16 c, .int .u16 d, .int .u16 e] #[.int .u16 a, .int .u16 b, .int .u16 c, .int .u16 d, .int .u16 e, .int .u8 lv, .bool ls, .int .u8 hv, .bool hs, .int .u8 ti, .bool s, .int .u8 u]))
  case first =>
    go_region
    · go_wp2_with fail
      go_meet
      case rel => exact ⟨_, _, rfl, rfl, Tri.start1 w _ _ _⟩
    · go_wp2_with fail
      go_meet
      case rel => exact ⟨_, _, rfl, rfl, Tri.start2 w _ _ _⟩
  case rest =>
    obtain ⟨T, P, rfl, rfl, hc⟩ := hcut
    have kb := cells_of hc.out.box
    have kt := cells_of hc.out.t
    have zt := frozen_of hc.out.t
    go_upto_if 50 with fail
    replace hc := Lib.hid (hc.out.four (.int .u16 oa) (.int .u16 ob) (.int .u16 oc) (.int .u16 od))
    generalize hW : World.setCell _ _ _ = W
    rw [hW] at hc
    clear hW kb kt zt
    go_cut [5] (fun p x => p = .pointer (some ⟨T, 0, none⟩) ∧ ∃ lv' : Int, (ls = false → lv' = lv) ∧ 0 ≤ lv' ∧ lv' ≤ 255 ∧ Hid (Tri w x T P #[.int .u16 a, .int .u16 b, .int .u16 c, .int .u16 d, .int .u16 e, .int .u8 lv, .bool ls, .int .u8 hv, .bool hs, .int .u8 ti, .bool s, .int .u8 u] #[.int .u16 oa, .int .u16 ob, .int .u16 oc, .int .u16 od, .int .u16 e] #[.int .u16 a, .int .u16 b, .int .u16 c, .int .u16 d, .int .u16 e, .int .u8 lv', .bool ls, .int .u8 hv, .bool hs, .int .u8 ti, .bool s, .int .u8 u]))
    case first =>
      have kb := cells_of hc.out.box
      have kp := cells_of hc.out.p
      have zp := frozen_of hc.out.p
      cases ls
      · go_wp2_with fail
        go_meet
        case rel => exact ⟨rfl, lv, fun _ => rfl, l0, l1, hc.out⟩
      · go_wp2_with fail
        go_meet
        case rel => exact ⟨rfl, xl, (fun h => by cases h), xl0, xl1, hc.out.one 5 _ rfl⟩
    case rest =>
      obtain ⟨rfl, lv', hl', l0', l1', hc'⟩ := hcut
      clear hc
      have kb := cells_of hc'.out.box
      go_upto_if 61 with fail
      clear kb
      go_cut [5] (fun p x => p = .pointer (some ⟨T, 0, none⟩) ∧ ∃ hv' : Int, (hs = false → hv' = hv) ∧ 0 ≤ hv' ∧ hv' ≤ 255 ∧ Hid (Tri w x T P #[.int .u16 a, .int .u16 b, .int .u16 c, .int .u16 d, .int .u16 e, .int .u8 lv, .bool ls, .int .u8 hv, .bool hs, .int .u8 ti, .bool s, .int .u8 u] #[.int .u16 oa, .int .u16 ob, .int .u16 oc, .int .u16 od, .int .u16 e] #[.int .u16 a, .int .u16 b, .int .u16 c, .int .u16 d, .int .u16 e, .int .u8 lv', .bool ls, .int .u8 hv', .bool hs, .int .u8 ti, .bool s, .int .u8 u]))
      case first =>
        have kb := cells_of hc'.out.box
        have kp := cells_of hc'.out.p
        have zp := frozen_of hc'.out.p
        have fsh : n2 / 2 ^ 8 = n2 / 256 := rfl
        cases hs
        · go_wp2_with fail
          go_meet
          case rel => exact ⟨rfl, hv, fun _ => rfl, h0, h1, hc'.out⟩
        · go_wp2_with fail
          go_meet
          case rel => exact ⟨rfl, xh, (fun h => by cases h), xh0, xh1, hc'.out.one 7 _ rfl⟩
      case rest =>
        obtain ⟨rfl, hv', hh', h0', h1', hc2⟩ := hcut
        clear hc'
        have hlod := alk_load a b c d e oa ob oc od lv hv lv' hv' (spr (ti % 2 == 1)) (spr (ti / 2 % 2 == 1)) s ls hs hal l0 l1 h0 h1 l0' l1' h0' h1' (spr_bd _).1 (spr_bd _).2 (spr_bd _).1 (spr_bd _).2 hl' hh'
        obtain ⟨_, hdv⟩ := alk_tells a b c d e oa ob oc od e u hal
        clear fm fa fb fc fd fl fh hl' hh'
        have kb := cells_of hc2.out.box
        go_wp2_with fail
        refine (dot_any a b c d e u _ a0 a1 b0 b1 c0 c1 d0 d1 e0 e1 u0 u1).mono ?_
        rintro r w1 ⟨rfl, z1⟩
        replace hc2 := Lib.hid (hc2.out.call z1)
        clear kb z1
        have kb := cells_of hc2.out.box
        have kt := cells_of hc2.out.t
        go_wp2_with fail
        refine (dot_any oa ob oc od e u _ oa0 oa1 ob0 ob1 oc0 oc1 od0 od1 e0 e1 u0 u1).mono ?_
        rintro r w2 ⟨rfl, z2⟩
        replace hc2 := Lib.hid (hc2.out.call z2)
        clear kb kt z2
        go_upto_region 9 with fail
        go_cut [7, 8, 9, 10, 104] (fun _ _ _ _ v x => v = .bool false ∧ Hid (Tri w x T P #[.int .u16 a, .int .u16 b, .int .u16 c, .int .u16 d, .int .u16 e, .int .u8 lv, .bool ls, .int .u8 hv, .bool hs, .int .u8 ti, .bool s, .int .u8 u] #[.int .u16 oa, .int .u16 ob, .int .u16 oc, .int .u16 od, .int .u16 e] #[.int .u16 a, .int .u16 b, .int .u16 c, .int .u16 d, .int .u16 e, .int .u8 lv', .bool ls, .int .u8 hv', .bool hs, .int .u8 ti, .bool s, .int .u8 u]))
        case first =>
          have kb := cells_of hc2.out.box
          have kt := cells_of hc2.out.t
          go_wp2_with fail
          refine (alike_any a b c d e oa ob oc od e _ a0 a1 b0 b1 c0 c1 d0 d1 e0 e1 oa0 oa1 ob0 ob1 oc0 oc1 od0 od1 e0 e1).mono ?_
          rintro r w3 ⟨rfl, z3⟩
          rw [hal]
          replace hc2 := Lib.hid (hc2.out.call z3)
          clear kb kt z3 hal hlod
          cases hde : ds e u
          · have hdq := hdv hde
            rw [hdq]
            go_wp2_with fail
            go_meet
            case rel => exact ⟨rfl, hc2.out⟩
          · go_wp2_with fail
            go_meet
            case rel => exact ⟨rfl, hc2.out⟩
        case rest =>
          obtain ⟨rfl, hc3⟩ := hcut
          clear hc2 hdv
          go_upto_region 11 with fail
          go_cut [11, 12] (fun p q x => ∃ X Y : Nat, p = .pointer (some ⟨X, 0, none⟩) ∧ q = .pointer (some ⟨Y, 0, none⟩) ∧ Hid (Duo w x X Y #[.int .u16 (ld a lv), .int .u16 (ld b hv), .int .u16 (ld c (spr (ti % 2 == 1))), .int .u16 (ld d (spr (ti / 2 % 2 == 1))), .int .u16 (ld e (spr (s || ls || hs)))] #[.int .u16 (ld oa lv'), .int .u16 (ld ob hv'), .int .u16 (ld oc (spr (ti % 2 == 1))), .int .u16 (ld od (spr (ti / 2 % 2 == 1))), .int .u16 (ld e (spr (s || ls || hs)))]))
          case first =>
            have hz0 : ∀ (x : World) (j : Nat), x.frozen? ⟨x.heap.size, j, none⟩ = false := fun x j => by simp [World.frozen?]
            have hz1 : ∀ (x : World) (j : Nat), x.frozen? ⟨x.heap.size + 1, j, none⟩ = false := fun x j => by simp [World.frozen?]
            have hcb : ∀ x, Below wc.heap.size wc x → ∀ j, x.cell? ⟨w.heap.size, j, none⟩ = (#[.int .u16 a, .int .u16 b, .int .u16 c, .int .u16 d, .int .u16 e, .int .u8 lv, .bool ls, .int .u8 hv, .bool hs, .int .u8 ti, .bool s, .int .u8 u] : Array Value)[j]? := fun x hx => cells_of (old_in hc3.out.box hx)
            have hct : ∀ x, Below wc.heap.size wc x → ∀ j, x.cell? ⟨T, j, none⟩ = (#[.int .u16 oa, .int .u16 ob, .int .u16 oc, .int .u16 od, .int .u16 e] : Array Value)[j]? := fun x hx => cells_of (old_in hc3.out.t hx)
            have hcp : ∀ x, Below wc.heap.size wc x → ∀ j, x.cell? ⟨P, j, none⟩ = (#[.int .u16 a, .int .u16 b, .int .u16 c, .int .u16 d, .int .u16 e, .int .u8 lv', .bool ls, .int .u8 hv', .bool hs, .int .u8 ti, .bool s, .int .u8 u] : Array Value)[j]? := fun x hx => cells_of (old_in hc3.out.p hx)
            go_region_held3 (fun x => Below wc.heap.size wc x) (repeat' (first | (with_reducible assumption) | (with_reducible exact (Below.refl _ _).drew) | (with_reducible exact Below.refl _ _) | (with_reducible refine below_set ?_ ?_ _) | (with_reducible refine Below.alloc ?_ ?_ _) | (with_reducible refine Below.drew ?_) | (refine below_call ?_ z1) | (refine below_call ?_ z2) | (with_reducible exact Nat.le_refl _) | omega | (rw [World.size_drew]) | (rw [World.size_alloc]) | (rw [World.size_setCell]))) (first | (go_at_call_of 10 (Value.agg #[.int .u16 a, .int .u16 b, .int .u16 c, .int .u16 d, .int .u16 e]); refine (load_any _ _ _ _ _ _ _ _ _ _ _ _ a0 a1 b0 b1 c0 c1 d0 d1 e0 e1 l0 l1 h0 h1 t0 t1).mono ?_; rintro r w1 ⟨rfl, z1⟩; obtain ⟨kc1, kf1⟩ := bcell z1; have q1 := z1.size; (repeat (first | rw [World.size_drew] at q1 | rw [World.size_alloc] at q1)); skip; (first | have g11 : wc.heap.size < w1.heap.size := by omega | skip); (first | have g12 : wc.heap.size ≤ w1.heap.size := by omega | skip); (first | have g13 : wc.heap.size ≠ w1.heap.size := by omega | skip); (first | have g14 : w1.heap.size ≠ wc.heap.size := by omega | skip); (first | have g15 : wc.heap.size + 1 < w1.heap.size := by omega | skip); (first | have g16 : wc.heap.size + 1 ≤ w1.heap.size := by omega | skip); (first | have g17 : wc.heap.size + 1 ≠ w1.heap.size := by omega | skip); (first | have g18 : w1.heap.size ≠ wc.heap.size + 1 := by omega | skip); (first | have g19 : w2.heap.size < w1.heap.size := by omega | skip); (first | have g110 : w2.heap.size ≤ w1.heap.size := by omega | skip); (first | have g111 : w2.heap.size ≠ w1.heap.size := by omega | skip); (first | have g112 : w1.heap.size ≠ w2.heap.size := by omega | skip); (first | have g113 : w2.heap.size + 1 < w1.heap.size := by omega | skip); (first | have g114 : w2.heap.size + 1 ≤ w1.heap.size := by omega | skip); (first | have g115 : w2.heap.size + 1 ≠ w1.heap.size := by omega | skip); (first | have g116 : w1.heap.size ≠ w2.heap.size + 1 := by omega | skip)) | (go_at_call_of 10 (Value.agg #[.int .u16 oa, .int .u16 ob, .int .u16 oc, .int .u16 od, .int .u16 e]); refine (load_any _ _ _ _ _ _ _ _ _ _ _ _ oa0 oa1 ob0 ob1 oc0 oc1 od0 od1 e0 e1 l0' l1' h0' h1' t0 t1).mono ?_; rintro r w2 ⟨rfl, z2⟩; obtain ⟨kc2, kf2⟩ := bcell z2; have q2 := z2.size; (repeat (first | rw [World.size_drew] at q2 | rw [World.size_alloc] at q2)); skip; (first | have g21 : wc.heap.size < w2.heap.size := by omega | skip); (first | have g22 : wc.heap.size ≤ w2.heap.size := by omega | skip); (first | have g23 : wc.heap.size ≠ w2.heap.size := by omega | skip); (first | have g24 : w2.heap.size ≠ wc.heap.size := by omega | skip); (first | have g25 : wc.heap.size + 1 < w2.heap.size := by omega | skip); (first | have g26 : wc.heap.size + 1 ≤ w2.heap.size := by omega | skip); (first | have g27 : wc.heap.size + 1 ≠ w2.heap.size := by omega | skip); (first | have g28 : w2.heap.size ≠ wc.heap.size + 1 := by omega | skip); (first | have g29 : w1.heap.size < w2.heap.size := by omega | skip); (first | have g210 : w1.heap.size ≤ w2.heap.size := by omega | skip); (first | have g211 : w1.heap.size ≠ w2.heap.size := by omega | skip); (first | have g212 : w2.heap.size ≠ w1.heap.size := by omega | skip); (first | have g213 : w1.heap.size + 1 < w2.heap.size := by omega | skip); (first | have g214 : w1.heap.size + 1 ≤ w2.heap.size := by omega | skip); (first | have g215 : w1.heap.size + 1 ≠ w2.heap.size := by omega | skip); (first | have g216 : w2.heap.size ≠ w1.heap.size + 1 := by omega | skip)))
            all_goals
              go_wp2_with fail
              go_meet
              case rel =>
                refine ⟨_, _, rfl, rfl, Duo.mk ?_ ?_ (below_call hc3.out.below ?_)⟩
                · repeat' (first | (with_reducible assumption) | (with_reducible exact at_new1 _ _) | (with_reducible exact at_new2 _ _ _) | (with_reducible exact at_newn _ _ (by simp only [World.size_setCell])) | (with_reducible refine set5_zero ?_ _ _ _ _ _) | (with_reducible refine set5_other ?_ ?_ _ _ _ _ _) | (with_reducible refine old_new ?_ _) | (with_reducible refine at_drew ?_) | (with_reducible refine old_in ?_ z2) | (with_reducible refine old_in ?_ z1) | (show (_ : Nat) ≠ _; omega))
                · repeat' (first | (with_reducible assumption) | (with_reducible exact at_new1 _ _) | (with_reducible exact at_new2 _ _ _) | (with_reducible exact at_newn _ _ (by simp only [World.size_setCell])) | (with_reducible refine set5_zero ?_ _ _ _ _ _) | (with_reducible refine set5_other ?_ ?_ _ _ _ _ _) | (with_reducible refine old_new ?_ _) | (with_reducible refine at_drew ?_) | (with_reducible refine old_in ?_ z2) | (with_reducible refine old_in ?_ z1) | (show (_ : Nat) ≠ _; omega))
                · repeat' (first | (with_reducible assumption) | (with_reducible exact (Below.refl _ _).drew) | (with_reducible exact Below.refl _ _) | (with_reducible refine below_set ?_ ?_ _) | (with_reducible refine Below.alloc ?_ ?_ _) | (with_reducible refine Below.drew ?_) | (with_reducible refine below_call ?_ z1) | (with_reducible refine below_call ?_ z2) | (with_reducible exact Nat.le_refl _) | omega | (rw [World.size_drew]) | (rw [World.size_alloc]) | (rw [World.size_setCell]))
          case rest =>
            obtain ⟨X, Y, rfl, rfl, hD⟩ := hcut
            obtain ⟨p0, p1⟩ := spr_bd (ti % 2 == 1)
            obtain ⟨q0, q1⟩ := spr_bd (ti / 2 % 2 == 1)
            obtain ⟨r0, r1⟩ := spr_bd (s || ls || hs)
            have hlo2 := alk_shift (ld a lv) (ld b hv) (ld c (spr (ti % 2 == 1))) (ld d (spr (ti / 2 % 2 == 1))) (ld e (spr (s || ls || hs))) (ld oa lv') (ld ob hv') (ld oc (spr (ti % 2 == 1))) (ld od (spr (ti / 2 % 2 == 1))) (ld e (spr (s || ls || hs))) hlod
            have HX := Lib.hid hD.out.t
            have HY := Lib.hid hD.out.t'
            have HG := Lib.hid hD.out.below
            clear hD hc3
            have bX0 := ld_bd a lv a0 a1 l0 l1
            have bX1 := ld_bd b hv b0 b1 h0 h1
            have bX2 := ld_bd c _ c0 c1 p0 p1
            have bX3 := ld_bd d _ d0 d1 q0 q1
            have bX4 := ld_bd e _ e0 e1 r0 r1
            have bY0 := ld_bd oa lv' oa0 oa1 l0' l1'
            have bY1 := ld_bd ob hv' ob0 ob1 h0' h1'
            have bY2 := ld_bd oc _ oc0 oc1 p0 p1
            have bY3 := ld_bd od _ od0 od1 q0 q1
            go_wp2_with fail
            refine wp_region_below (by kernel_rfl) (by kernel_rfl) ?_
            refine quiet_yes ?_ ?_ (fun x hx => ?_) ?_
            rotate_left
            · rfl
            · have kx := cells_of (old_in HX.out hx)
              have ky := cells_of (old_in HY.out hx)
              go_simp
              first | done | (with_reducible rfl) | rfl
            simp only [Act.put, List.setIfInBounds_toArray, List.set_cons_zero, List.set_cons_succ]
            refine quiet_yes ?_ ?_ (fun x hx => ?_) ?_
            rotate_left
            · rfl
            · have kx := cells_of (old_in HX.out hx)
              have ky := cells_of (old_in HY.out hx)
              go_simp
              first | done | (with_reducible rfl) | rfl
            simp only [Act.put, List.setIfInBounds_toArray, List.set_cons_zero, List.set_cons_succ]
            refine quiet_yes ?_ ?_ (fun x hx => ?_) ?_
            rotate_left
            · rfl
            · have kx := cells_of (old_in HX.out hx)
              have ky := cells_of (old_in HY.out hx)
              go_simp
              (have q := below_in hx (alike_any (ld a lv) (ld b hv) (ld c (spr (ti % 2 == 1))) (ld d (spr (ti / 2 % 2 == 1))) (ld e (spr (s || ls || hs))) (ld oa lv') (ld ob hv') (ld oc (spr (ti % 2 == 1))) (ld od (spr (ti / 2 % 2 == 1))) (ld e (spr (s || ls || hs))) x bX0.1 bX0.2 bX1.1 bX1.2 bX2.1 bX2.2 bX3.1 bX3.2 bX4.1 bX4.2 bY0.1 bY0.2 bY1.1 bY1.2 bY2.1 bY2.2 bY3.1 bY3.2 bX4.1 bX4.2); rw [hlod] at q; exact q)
            simp only [Act.put, List.setIfInBounds_toArray, List.set_cons_zero, List.set_cons_succ]
            refine quiet_yes ?_ ?_ (fun x hx => ?_) ?_
            rotate_left
            · rfl
            · have kx := cells_of (old_in HX.out hx)
              have ky := cells_of (old_in HY.out hx)
              go_simp
              first | done | (with_reducible rfl) | rfl
            simp only [Act.put, List.setIfInBounds_toArray, List.set_cons_zero, List.set_cons_succ]
            refine quiet_yes ?_ ?_ (fun x hx => ?_) ?_
            rotate_left
            · rfl
            · have kx := cells_of (old_in HX.out hx)
              have ky := cells_of (old_in HY.out hx)
              go_simp
              first | done | (with_reducible rfl) | rfl
            simp only [Act.put, List.setIfInBounds_toArray, List.set_cons_zero, List.set_cons_succ]
            refine quiet_yes ?_ ?_ (fun x hx => ?_) ?_
            rotate_left
            · rfl
            · have kx := cells_of (old_in HX.out hx)
              have ky := cells_of (old_in HY.out hx)
              go_simp
              first | done | (with_reducible rfl) | rfl
            simp only [Act.put, List.setIfInBounds_toArray, List.set_cons_zero, List.set_cons_succ]
            refine quiet_yes ?_ ?_ (fun x hx => ?_) ?_
            rotate_left
            · rfl
            · have kx := cells_of (old_in HX.out hx)
              have ky := cells_of (old_in HY.out hx)
              go_simp
              (have q := below_in hx (ralike_any (ld a lv) (ld b hv) (ld c (spr (ti % 2 == 1))) (ld d (spr (ti / 2 % 2 == 1))) (ld e (spr (s || ls || hs))) (ld oa lv') (ld ob hv') (ld oc (spr (ti % 2 == 1))) (ld od (spr (ti / 2 % 2 == 1))) (ld e (spr (s || ls || hs))) x bX0.1 bX0.2 bX1.1 bX1.2 bX2.1 bX2.2 bX3.1 bX3.2 bX4.1 bX4.2 bY0.1 bY0.2 bY1.1 bY1.2 bY2.1 bY2.2 bY3.1 bY3.2 bX4.1 bX4.2); rw [hlod] at q; exact q)
            simp only [Act.put, List.setIfInBounds_toArray, List.set_cons_zero, List.set_cons_succ]
            refine quiet_yes ?_ ?_ (fun x hx => ?_) ?_
            rotate_left
            · rfl
            · have kx := cells_of (old_in HX.out hx)
              have ky := cells_of (old_in HY.out hx)
              go_simp
              first | done | (with_reducible rfl) | rfl
            simp only [Act.put, List.setIfInBounds_toArray, List.set_cons_zero, List.set_cons_succ]
            refine quiet_yes ?_ ?_ (fun x hx => ?_) ?_
            rotate_left
            · rfl
            · have kx := cells_of (old_in HX.out hx)
              have ky := cells_of (old_in HY.out hx)
              go_simp
              first | done | (with_reducible rfl) | rfl
            simp only [Act.put, List.setIfInBounds_toArray, List.set_cons_zero, List.set_cons_succ]
            refine quiet_yes ?_ ?_ (fun x hx => ?_) ?_
            rotate_left
            · rfl
            · have kx := cells_of (old_in HX.out hx)
              have ky := cells_of (old_in HY.out hx)
              go_simp
              first | done | (with_reducible rfl) | rfl
            simp only [Act.put, List.setIfInBounds_toArray, List.set_cons_zero, List.set_cons_succ]
            refine quiet_yes ?_ ?_ (fun x hx => ?_) ?_
            rotate_left
            · rfl
            · have kx := cells_of (old_in HX.out hx)
              have ky := cells_of (old_in HY.out hx)
              go_simp
              (have q := below_in hx (shift_any (ld a lv) (ld b hv) (ld c (spr (ti % 2 == 1))) (ld d (spr (ti / 2 % 2 == 1))) (ld e (spr (s || ls || hs))) x); exact q)
            simp only [Act.put, List.setIfInBounds_toArray, List.set_cons_zero, List.set_cons_succ]
            refine quiet_yes ?_ ?_ (fun x hx => ?_) ?_
            rotate_left
            · rfl
            · have kx := cells_of (old_in HX.out hx)
              have ky := cells_of (old_in HY.out hx)
              go_simp
              first | done | (with_reducible rfl) | rfl
            simp only [Act.put, List.setIfInBounds_toArray, List.set_cons_zero, List.set_cons_succ]
            refine quiet_yes ?_ ?_ (fun x hx => ?_) ?_
            rotate_left
            · rfl
            · have kx := cells_of (old_in HX.out hx)
              have ky := cells_of (old_in HY.out hx)
              go_simp
              (have q := below_in hx (shift_any (ld oa lv') (ld ob hv') (ld oc (spr (ti % 2 == 1))) (ld od (spr (ti / 2 % 2 == 1))) (ld e (spr (s || ls || hs))) x); exact q)
            simp only [Act.put, List.setIfInBounds_toArray, List.set_cons_zero, List.set_cons_succ]
            refine quiet_yes ?_ ?_ (fun x hx => ?_) ?_
            rotate_left
            · rfl
            · have kx := cells_of (old_in HX.out hx)
              have ky := cells_of (old_in HY.out hx)
              go_simp
              (have q := below_in hx (alike_any (sh (ld a lv)) (sh (ld b hv)) (sh (ld c (spr (ti % 2 == 1)))) (sh (ld d (spr (ti / 2 % 2 == 1)))) (sh (ld e (spr (s || ls || hs)))) (sh (ld oa lv')) (sh (ld ob hv')) (sh (ld oc (spr (ti % 2 == 1)))) (sh (ld od (spr (ti / 2 % 2 == 1)))) (sh (ld e (spr (s || ls || hs)))) x (sh_bd (ld a lv)).1 (sh_bd (ld a lv)).2 (sh_bd (ld b hv)).1 (sh_bd (ld b hv)).2 (sh_bd (ld c (spr (ti % 2 == 1)))).1 (sh_bd (ld c (spr (ti % 2 == 1)))).2 (sh_bd (ld d (spr (ti / 2 % 2 == 1)))).1 (sh_bd (ld d (spr (ti / 2 % 2 == 1)))).2 (sh_bd (ld e (spr (s || ls || hs)))).1 (sh_bd (ld e (spr (s || ls || hs)))).2 (sh_bd (ld oa lv')).1 (sh_bd (ld oa lv')).2 (sh_bd (ld ob hv')).1 (sh_bd (ld ob hv')).2 (sh_bd (ld oc (spr (ti % 2 == 1)))).1 (sh_bd (ld oc (spr (ti % 2 == 1)))).2 (sh_bd (ld od (spr (ti / 2 % 2 == 1)))).1 (sh_bd (ld od (spr (ti / 2 % 2 == 1)))).2 (sh_bd (ld e (spr (s || ls || hs)))).1 (sh_bd (ld e (spr (s || ls || hs)))).2); rw [hlo2] at q; exact q)
            simp only [Act.put, List.setIfInBounds_toArray, List.set_cons_zero, List.set_cons_succ]
            refine quiet_yes ?_ ?_ (fun x hx => ?_) ?_
            rotate_left
            · rfl
            · have kx := cells_of (old_in HX.out hx)
              have ky := cells_of (old_in HY.out hx)
              go_simp
              first | done | (with_reducible rfl) | rfl
            simp only [Act.put, List.setIfInBounds_toArray, List.set_cons_zero, List.set_cons_succ]
            refine quiet_yes ?_ ?_ (fun x hx => ?_) ?_
            rotate_left
            · rfl
            · have kx := cells_of (old_in HX.out hx)
              have ky := cells_of (old_in HY.out hx)
              go_simp
              first | done | (with_reducible rfl) | rfl
            simp only [Act.put, List.setIfInBounds_toArray, List.set_cons_zero, List.set_cons_succ]
            refine quiet_yes ?_ ?_ (fun x hx => ?_) ?_
            rotate_left
            · rfl
            · have kx := cells_of (old_in HX.out hx)
              have ky := cells_of (old_in HY.out hx)
              go_simp
              (have q := below_in hx (awake_any x); exact q)
            simp only [Act.put, List.setIfInBounds_toArray, List.set_cons_zero, List.set_cons_succ]
            refine quiet_yes ?_ ?_ (fun x hx => ?_) ?_
            rotate_left
            · rfl
            · have kx := cells_of (old_in HX.out hx)
              have ky := cells_of (old_in HY.out hx)
              go_simp
              first | done | (with_reducible rfl) | rfl
            simp only [Act.put, List.setIfInBounds_toArray, List.set_cons_zero, List.set_cons_succ]
            refine quiet_yes ?_ ?_ (fun x hx => ?_) ?_
            rotate_left
            · rfl
            · have kx := cells_of (old_in HX.out hx)
              have ky := cells_of (old_in HY.out hx)
              go_simp
              first | done | (with_reducible rfl) | rfl
            simp only [Act.put, List.setIfInBounds_toArray, List.set_cons_zero, List.set_cons_succ]
            refine wpQuiet_nil ?_
            intro y hy
            replace HG := Lib.hid (below_call HG.out hy)
            clear hy
            go_wp2
            go_ret
            exact ⟨rfl, HG.out⟩

set_option maxRecDepth 100000 in
theorem lifted (os : Os) (started : os.Started) (H : Type) (enc : TypeId × Value → H) :
    ReturnsInHanded {} Try.checked os 7 .any (Rows.tileAlikeSpec.pre6 enc Try.prog Try.f7 Rows.tileAlikeRow.domain false) (Rows.tileAlikeSpec.post enc Try.prog Try.f7 false true false false) := by
  refine returnsInHanded_of_change (C := Try.checked) own started (by kernel_rfl) Try.func7
    (ChangeSpec.witness6 (enc := enc) (C := Try.checked) false ⟨#[], #[.agg #[.int .u16 0, .int .u16 0, .int .u16 0, .int .u16 0, .int .u16 0, .int .u8 0, .bool false, .int .u8 0, .bool false, .int .u8 0, .bool false, .int .u8 0], .int .u16 0], []⟩ 8 (by kernel_rfl) (by kernel_rfl) (by kernel_rfl) (by kernel_rfl)) ?_
  intro W base args ds gs before hval0 hW hcnd _
  have hval : ∀ (j : Nat) t v, Try.f7.params[j]? = some t → args[j]? = some v → Value.okWide Try.prog W .any base t v := hval0
  have hW' := hW
  obtain ⟨p, q, hA0, hV, rfl, hfz, hnd⟩ := hW
  have hA : DataW.TrodAll enc Try.prog W 0 (fun _ => true) true Try.f7.params.toList args.toList ds p := hA0
  rw [Try.params7] at hA hval
  obtain ⟨v0, vs0, d0, ds0, p0, q0, hargs, rfl, rfl, h0, r0⟩ := trodAll_cons hA
  obtain ⟨v1, vs1, d1, ds1, p1, q1, rfl, rfl, rfl, h1, r1⟩ := trodAll_cons r0
  obtain ⟨rfl, rfl, rfl⟩ := trodAll_nil r1
  obtain rfl : args = #[v0, v1] := by cases args; simp_all
  obtain ⟨rfl, rfl⟩ := trodVars_none hV
  obtain ⟨a, b, c, d, e, lv, ls, hv, hs, ti, s, u, rfl, rfl, w_a, w_b, w_c, w_d, w_e, w_lv, w_hv, w_ti, w_u⟩ := open_ask (hval 0 28 v0 rfl rfl) h0
  obtain ⟨n2, rfl, rfl, rfl, w_n2⟩ := open_int Try.underlying22 (hval 1 22 v1 rfl rfl) h1
  clear hA0 hval0
  simp only [List.append_nil] at hW'
  refine (walk a b c d e lv ls hv hs ti s u w_a w_b w_c w_d w_e w_lv w_hv w_ti w_u n2 w_n2 W).mono fun e W' ⟨he, hg⟩ => ?_
  subst he
  exact ⟨_, rfl, _, _, _, [], _, [], hW', trodAll_mk1 (shut_bool Try.underlying4 _), (trodAll_cons_mk (stay28 h0) (trodAll_cons_mk (shut_int Try.underlying22 w_n2) trodAll_mk0)), rfl, hg.frame _, fun h => by cases h⟩

theorem over : Rows.tileAlikeRow.holds Try.pinned (OpenSpec.ofChange Rows.tileAlikeSpec) :=
  OpenClaim.holds_of_wide 7 Try.f7 rfl rfl rfl rfl rfl rfl rfl ⟨rfl, rfl, rfl, rfl, rfl⟩ rfl rfl rfl rfl rfl (by kernel_rfl) Try.func7 (by kernel_rfl)
    (of_decide_eq_true (by kernel_rfl)) (by unfold Func.isWrapper; first | (rw [if_pos (by decide +kernel)]; kernel_rfl) | (rw [if_neg (by decide +kernel)]; exact ⟨rfl, rfl⟩))
    (fun os started H enc _ => lifted os started H enc)

/-- THE STATEMENT -/
theorem proved : Rows.TileAlikeSaid :=
  over
#print axioms proved
end Go.Proofs.Ytnmobjjinidmiaa.tileAlike
