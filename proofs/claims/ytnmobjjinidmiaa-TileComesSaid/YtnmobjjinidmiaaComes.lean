/-
  TileComes: at every input the law returns true and leaves its arguments as they were. No condition.
-/
import Derived.Test.YtnmobjjinidmiaaF
import Derived.Test.YtnmobjjinidmiaaA
import Derived.Test.YtnmobjjinidmiaaPl3
import Derived.OpenShut
import Derived.BigQuiet
namespace Go.Proofs.Ytnmobjjinidmiaa.tileComes
open Go.Proofs.Ytnmobjjinidmiaa
open Go.ChangeShapes Go.WideShapes Go.ChangeAt Go.RowKit
set_option linter.unusedVariables false
structure Com (w wr : World) (T : Nat) (box : Array Value) (a b c d e : Int) : Prop where
  box : wr.heap[w.heap.size]? = some (.cells box 28 (0, 0))
  tile : Row5 wr T a b c d e
  below : Below w.heap.size w wr
  lt : w.heap.size < T
theorem Com.next {w wr w1 w2 : World} {T : Nat} {box : Array Value} {a b c d e : Int} (h : Com w wr T box a b c d e) (h1 : Below wr.heap.size wr w1) (nq : Nat) (h2 : Below (w1.drewN nq).heap.size (w1.drewN nq) w2) (a' b' c' d' e' : Int) :
    Com w (w2.setRow T #[.int .u16 a', .int .u16 b', .int .u16 c', .int .u16 d', .int .u16 e']) T box a' b' c' d' e' := by
  have t1 : w1.heap[T]? = _ := old_in h.tile h1
  have t2 : w2.heap[T]? = _ := old_in (W := w1.drewN nq) t1 h2
  have x1 := old_in h.box h1
  have x2 := old_in (W := w1.drewN nq) x1 h2
  have g1 := below_call h.below h1
  have g1' : Below w.heap.size w (w1.drewN nq) := ⟨g1.os, g1.tape, g1.output, g1.size, g1.block⟩
  have hlt := h.lt
  refine ⟨?_, setRow_heap _ _ _ _ _ _ t2, Below.setRow (below_call g1' h2) (by omega) _, hlt⟩
  rw [setRow_other _ _ _ _ (by omega)]
  exact x2

set_option maxRecDepth 100000 in
set_option maxHeartbeats 4000000 in
theorem walk (a : Int) (b : Int) (c : Int) (d : Int) (e : Int) (lv : Int) (ls : Bool) (hv : Int) (hs : Bool) (ti : Int) (s : Bool) (u : Int) (w_a : (Lit.int .u16 a).wf = true) (w_b : (Lit.int .u16 b).wf = true) (w_c : (Lit.int .u16 c).wf = true) (w_d : (Lit.int .u16 d).wf = true) (w_e : (Lit.int .u16 e).wf = true) (w_lv : (Lit.int .u8 lv).wf = true) (w_hv : (Lit.int .u8 hv).wf = true) (w_ti : (Lit.int .u8 ti).wf = true) (w_u : (Lit.int .u8 u).wf = true) (w : World) :
    Calls Try.prog 3 #[.agg #[.int .u16 a, .int .u16 b, .int .u16 c, .int .u16 d, .int .u16 e, .int .u8 lv, .bool ls, .int .u8 hv, .bool hs, .int .u8 ti, .bool s, .int .u8 u]] w fun r w' => r = .returned (.bool true) ∧ Below w.heap.size w w' := by
  obtain ⟨a0, a1⟩ := bounds_u16 w_a
  obtain ⟨b0, b1⟩ := bounds_u16 w_b
  obtain ⟨c0, c1⟩ := bounds_u16 w_c
  obtain ⟨d0, d1⟩ := bounds_u16 w_d
  obtain ⟨e0, e1⟩ := bounds_u16 w_e
  obtain ⟨l0, l1⟩ := bounds_u8 w_lv
  obtain ⟨h0, h1⟩ := bounds_u8 w_hv
  obtain ⟨t0, t1⟩ := bounds_u8 w_ti
  clear w_a w_b w_c w_d w_e w_u w_lv w_hv w_ti
  go_enter Try.func3, Try.ntmps3
  go_wp2_with fail
  refine (load_any a b c d e lv hv ti s ls hs _ a0 a1 b0 b1 c0 c1 d0 d1 e0 e1 l0 l1 h0 h1 t0 t1).mono ?_
  rintro r w1 ⟨rfl, z1⟩
  go_wp2_with fail
  refine (shifted_any 8 (by omega) _ _ _ _ _ _).mono ?_
  rintro r w2 ⟨rfl, z2⟩
  have hcom : Com w (w2.alloc (.cells #[.int .u16 (shn (8 + 0) (ld a lv)), .int .u16 (shn (8 + 0) (ld b hv)), .int .u16 (shn (8 + 0) (ld c (spr (ti % 2 == 1)))), .int .u16 (shn (8 + 0) (ld d (spr (ti / 2 % 2 == 1)))), .int .u16 (shn (8 + 0) (ld e (spr (s || ls || hs))))] 24)) w2.heap.size
      #[.int .u16 a, .int .u16 b, .int .u16 c, .int .u16 d, .int .u16 e, .int .u8 lv, .bool ls, .int .u8 hv, .bool hs, .int .u8 ti, .bool s, .int .u8 u]
      (shn (8 + 0) (ld a lv)) (shn (8 + 0) (ld b hv)) (shn (8 + 0) (ld c (spr (ti % 2 == 1)))) (shn (8 + 0) (ld d (spr (ti / 2 % 2 == 1)))) (shn (8 + 0) (ld e (spr (s || ls || hs)))) := by
    have g1 := below_new (Below.refl w.heap.size w) (Nat.le_refl _) z1
    have x1 := new_in z1
    have x2 := old_in x1 z2
    have hlt : w.heap.size < w2.heap.size := by
      rcases Nat.lt_or_ge w.heap.size w2.heap.size with q | q
      · exact q
      · rw [Array.getElem?_eq_none q] at x2
        cases x2
    exact ⟨by rw [heap_alloc_old _ _ hlt]; exact x2, heap_alloc_new _ _, (below_call g1 z2).alloc (Nat.le_of_lt hlt) _, hlt⟩
  have Hcom := Lib.hid hcom
  clear hcom z1 z2
  go_wp2_with fail
  go_loopw [4] (fun i wr => ∃ j : Nat, j ≤ 8 ∧ i = .int .i64 j ∧ Hid (Com w wr w2.heap.size #[.int .u16 a, .int .u16 b, .int .u16 c, .int .u16 d, .int .u16 e, .int .u8 lv, .bool ls, .int .u8 hv, .bool hs, .int .u8 ti, .bool s, .int .u8 u] (shn (8 + j) (ld a lv)) (shn (8 + j) (ld b hv)) (shn (8 + j) (ld c (spr (ti % 2 == 1)))) (shn (8 + j) (ld d (spr (ti / 2 % 2 == 1)))) (shn (8 + j) (ld e (spr (s || ls || hs)))))) (fun i _ => 8 - (intOf i).toNat)
  case atStart => exact ⟨0, by omega, rfl, Hcom.out⟩
  case round =>
    obtain ⟨j, hj, rfl, hs0⟩ := hrel
    by_cases hlt : j < 8
    · have hD := come_dv j hlt a b c d lv hv ti l0 l1 h0 h1 t0
      have hS := come_ds j hlt e (s || ls || hs)
      have f1 := ob_w lv j l0 l1
      have f2 := ob_w hv j h0 h1
      have f3 := and3 ti t0 t1
      obtain ⟨x0, x1⟩ := ob_bd lv j
      obtain ⟨y0, y1⟩ := ob_bd hv j
      obtain ⟨f4, f5⟩ := or_want (ob lv j) (ob hv j) (ti % 4) ⟨x0, x1⟩ ⟨y0, y1⟩ (by omega)
      have hrow := Lib.hid hs0.out.tile
      go_wp2_with (refine wpList_load_row rfl 24 (.tmp 3) rfl w2.heap.size rfl 24 _ (0, 0) _ hrow.out Try.underlying24 rfl (by kernel_rfl) ?_)
      refine (dot_any _ _ _ _ _ 0 _ (shn8_bd j _).1 (shn8_bd j _).2 (shn8_bd j _).1 (shn8_bd j _).2 (shn8_bd j _).1 (shn8_bd j _).2 (shn8_bd j _).1 (shn8_bd j _).2 (shn8_bd j _).1 (shn8_bd j _).2 (by omega) (by omega)).mono ?_
      rintro r w3 ⟨rfl, z3⟩
      have k3 := cells_of (old_in hs0.out.box z3)
      have hrow3 := Lib.hid (old_in hs0.out.tile z3)
      have Z3 := Lib.hid z3
      clear z3
      go_wp2_with fail
      go_quiet (fail)
      cases s
      · cases ls
        all_goals
          go_wp2_with (refine wpList_load_row rfl 24 (.tmp 3) rfl w2.heap.size rfl 24 _ (0, 0) _ hrow3.out Try.underlying24 rfl (by kernel_rfl) ?_)
          refine (shift_any _ _ _ _ _ _).mono ?_
          rintro r w4 ⟨rfl, z4⟩
          have hrow4 := Lib.hid (old_in (W := w3.drewN nq) hrow3.out z4)
          have Z4 := Lib.hid z4
          clear z4
          go_wp2_with (refine wpList_store_row rfl 24 (.tmp 3) (.tmp 70) rfl w2.heap.size _ rfl rfl 24 _ hrow4.out (by kernel_rfl) rfl (one5 _ _ _ _ _) ?_)
          go_roundw
          case rel => first | exact ⟨j + 1, by omega, by go_num, Com.next hs0.out Z3.out nq Z4.out _ _ _ _ _⟩ | ((repeat apply Exists.intro); exact ⟨⟨j + 1, by omega, by go_num, Com.next hs0.out Z3.out nq Z4.out _ _ _ _ _⟩, rfl⟩)
          case measure => simp [intOf]; omega
      · go_wp2_with (refine wpList_load_row rfl 24 (.tmp 3) rfl w2.heap.size rfl 24 _ (0, 0) _ hrow3.out Try.underlying24 rfl (by kernel_rfl) ?_)
        refine (shift_any _ _ _ _ _ _).mono ?_
        rintro r w4 ⟨rfl, z4⟩
        have hrow4 := Lib.hid (old_in (W := w3.drewN nq) hrow3.out z4)
        have Z4 := Lib.hid z4
        clear z4
        go_wp2_with (refine wpList_store_row rfl 24 (.tmp 3) (.tmp 70) rfl w2.heap.size _ rfl rfl 24 _ hrow4.out (by kernel_rfl) rfl (one5 _ _ _ _ _) ?_)
        go_roundw
        case rel => first | exact ⟨j + 1, by omega, by go_num, Com.next hs0.out Z3.out nq Z4.out _ _ _ _ _⟩ | ((repeat apply Exists.intro); exact ⟨⟨j + 1, by omega, by go_num, Com.next hs0.out Z3.out nq Z4.out _ _ _ _ _⟩, rfl⟩)
        case measure => simp [intOf]; omega
    · obtain rfl : j = 8 := by omega
      have hz : Com w wr w2.heap.size #[.int .u16 a, .int .u16 b, .int .u16 c, .int .u16 d, .int .u16 e, .int .u8 lv, .bool ls, .int .u8 hv, .bool hs, .int .u8 ti, .bool s, .int .u8 u] 0 0 0 0 0 := by
        have := hs0.out
        rw [come_zero, come_zero, come_zero, come_zero, come_zero] at this
        exact this
      have hrow := Lib.hid hz.tile
      have hbel := Lib.hid hz.below
      clear hs0 hz
      go_wp2_with (refine wpList_load_row rfl 24 (.tmp 3) rfl w2.heap.size rfl 24 _ (0, 0) _ hrow.out Try.underlying24 rfl (by kernel_rfl) ?_)
      refine (awake_any _).mono ?_
      rintro r w3 ⟨rfl, z3⟩
      go_wp2
      go_ret
      exact ⟨rfl, below_call hbel.out z3⟩

set_option maxRecDepth 100000 in
theorem lifted (os : Os) (started : os.Started) (H : Type) (enc : TypeId × Value → H) :
    ReturnsInHanded {} Try.checked os 3 .any (Rows.tileComesSpec.pre6 enc Try.prog Try.f3 Rows.tileComesRow.domain false) (Rows.tileComesSpec.post enc Try.prog Try.f3 false true false false) := by
  refine returnsInHanded_of_change (C := Try.checked) own started (by kernel_rfl) Try.func3
    (ChangeSpec.witness6 (enc := enc) (C := Try.checked) false ⟨#[], #[.agg #[.int .u16 0, .int .u16 0, .int .u16 0, .int .u16 0, .int .u16 0, .int .u8 0, .bool false, .int .u8 0, .bool false, .int .u8 0, .bool false, .int .u8 0]], []⟩ 8 (by kernel_rfl) (by kernel_rfl) (by kernel_rfl) (by kernel_rfl)) ?_
  intro W base args ds gs before hval0 hW hcnd _
  have hval : ∀ (j : Nat) t v, Try.f3.params[j]? = some t → args[j]? = some v → Value.okWide Try.prog W .any base t v := hval0
  have hW' := hW
  obtain ⟨p, q, hA0, hV, rfl, hfz, hnd⟩ := hW
  have hA : DataW.TrodAll enc Try.prog W 0 (fun _ => true) true Try.f3.params.toList args.toList ds p := hA0
  rw [Try.params3] at hA hval
  obtain ⟨v0, vs0, d0, ds0, p0, q0, hargs, rfl, rfl, h0, r0⟩ := trodAll_cons hA
  obtain ⟨rfl, rfl, rfl⟩ := trodAll_nil r0
  obtain rfl : args = #[v0] := by cases args; simp_all
  obtain ⟨rfl, rfl⟩ := trodVars_none hV
  obtain ⟨a, b, c, d, e, lv, ls, hv, hs, ti, s, u, rfl, rfl, w_a, w_b, w_c, w_d, w_e, w_lv, w_hv, w_ti, w_u⟩ := open_ask (hval 0 28 v0 rfl rfl) h0
  clear hA0 hval0
  simp only [List.append_nil] at hW'
  refine (walk a b c d e lv ls hv hs ti s u w_a w_b w_c w_d w_e w_lv w_hv w_ti w_u W).mono fun e W' ⟨he, hg⟩ => ?_
  subst he
  exact ⟨_, rfl, _, _, _, [], _, [], hW', trodAll_mk1 (shut_bool Try.underlying4 _), (trodAll_cons_mk (stay28 h0) trodAll_mk0), rfl, hg.frame _, fun h => by cases h⟩

theorem over : Rows.tileComesRow.holds Try.pinned (OpenSpec.ofChange Rows.tileComesSpec) :=
  OpenClaim.holds_of_wide 3 Try.f3 rfl rfl rfl rfl rfl rfl rfl ⟨rfl, rfl, rfl, rfl, rfl⟩ rfl rfl rfl rfl rfl (by kernel_rfl) Try.func3 (by kernel_rfl)
    (of_decide_eq_true (by kernel_rfl)) (by unfold Func.isWrapper; first | (rw [if_pos (by decide +kernel)]; kernel_rfl) | (rw [if_neg (by decide +kernel)]; exact ⟨rfl, rfl⟩))
    (fun os started H enc _ => lifted os started H enc)

/-- THE STATEMENT -/
theorem proved : Rows.TileComesSaid :=
  over
#print axioms proved
end Go.Proofs.Ytnmobjjinidmiaa.tileComes
