/-
  TileTwo: at every input the law returns true and leaves its arguments as they were. No condition.
-/
import Derived.Test.YtnmobjjinidmiaaF
import Derived.Test.YtnmobjjinidmiaaA
import Derived.Test.YtnmobjjinidmiaaPl4
import Derived.OpenShut
import Derived.BigQuiet
namespace Go.Proofs.Ytnmobjjinidmiaa.tileTwo
open Go.Proofs.Ytnmobjjinidmiaa
open Go.ChangeShapes Go.WideShapes Go.ChangeAt Go.RowKit
set_option linter.unusedVariables false

set_option maxRecDepth 100000 in
set_option maxHeartbeats 4000000 in
theorem walk (a : Int) (b : Int) (c : Int) (d : Int) (e : Int) (lv : Int) (ls : Bool) (hv : Int) (hs : Bool) (ti : Int) (s : Bool) (u : Int) (w_a : (Lit.int .u16 a).wf = true) (w_b : (Lit.int .u16 b).wf = true) (w_c : (Lit.int .u16 c).wf = true) (w_d : (Lit.int .u16 d).wf = true) (w_e : (Lit.int .u16 e).wf = true) (w_lv : (Lit.int .u8 lv).wf = true) (w_hv : (Lit.int .u8 hv).wf = true) (w_ti : (Lit.int .u8 ti).wf = true) (w_u : (Lit.int .u8 u).wf = true) (a2 : Int) (b2 : Int) (c2 : Int) (d2 : Int) (e2 : Int) (lv2 : Int) (ls2 : Bool) (hv2 : Int) (hs2 : Bool) (ti2 : Int) (s2 : Bool) (u2 : Int) (w_a2 : (Lit.int .u16 a2).wf = true) (w_b2 : (Lit.int .u16 b2).wf = true) (w_c2 : (Lit.int .u16 c2).wf = true) (w_d2 : (Lit.int .u16 d2).wf = true) (w_e2 : (Lit.int .u16 e2).wf = true) (w_lv2 : (Lit.int .u8 lv2).wf = true) (w_hv2 : (Lit.int .u8 hv2).wf = true) (w_ti2 : (Lit.int .u8 ti2).wf = true) (w_u2 : (Lit.int .u8 u2).wf = true) (w : World) :
    Calls Try.prog 5 #[.agg #[.int .u16 a, .int .u16 b, .int .u16 c, .int .u16 d, .int .u16 e, .int .u8 lv, .bool ls, .int .u8 hv, .bool hs, .int .u8 ti, .bool s, .int .u8 u], .agg #[.int .u16 a2, .int .u16 b2, .int .u16 c2, .int .u16 d2, .int .u16 e2, .int .u8 lv2, .bool ls2, .int .u8 hv2, .bool hs2, .int .u8 ti2, .bool s2, .int .u8 u2]] w fun r w' => r = .returned (.bool true) ∧ Below w.heap.size w w' := by
  obtain ⟨a0, a1⟩ := bounds_u16 w_a
  obtain ⟨a20, a21⟩ := bounds_u16 w_a2
  obtain ⟨b0, b1⟩ := bounds_u16 w_b
  obtain ⟨b20, b21⟩ := bounds_u16 w_b2
  obtain ⟨c0, c1⟩ := bounds_u16 w_c
  obtain ⟨c20, c21⟩ := bounds_u16 w_c2
  obtain ⟨d0, d1⟩ := bounds_u16 w_d
  obtain ⟨d20, d21⟩ := bounds_u16 w_d2
  obtain ⟨e0, e1⟩ := bounds_u16 w_e
  obtain ⟨e20, e21⟩ := bounds_u16 w_e2
  obtain ⟨l0, l1⟩ := bounds_u8 w_lv
  obtain ⟨l20, l21⟩ := bounds_u8 w_lv2
  obtain ⟨h0, h1⟩ := bounds_u8 w_hv
  obtain ⟨h20, h21⟩ := bounds_u8 w_hv2
  obtain ⟨t0, t1⟩ := bounds_u8 w_ti
  obtain ⟨t20, t21⟩ := bounds_u8 w_ti2
  clear w_a w_a2 w_b w_b2 w_c w_c2 w_d w_d2 w_e w_e2 w_lv w_lv2 w_hv w_hv2 w_ti w_ti2 w_u w_u2
  go_enter Try.func5, Try.ntmps5
  go_wp2_with fail
  refine (load_any a b c d e lv hv ti s ls hs _ a0 a1 b0 b1 c0 c1 d0 d1 e0 e1 l0 l1 h0 h1 t0 t1).mono ?_
  rintro r w1 ⟨rfl, z1⟩
  go_wp2_with fail
  refine (shifted_any 8 (by omega) _ _ _ _ _ _).mono ?_
  rintro r w2 ⟨rfl, z2⟩
  have q0 : w1.heap[w.heap.size]? = some (.cells #[.int .u16 a, .int .u16 b, .int .u16 c, .int .u16 d, .int .u16 e, .int .u8 lv, .bool ls, .int .u8 hv, .bool hs, .int .u8 ti, .bool s, .int .u8 u] 28 (0, 0)) := old_in (heap_alloc2_old _ _ _) z1
  have o0 : w1.heap[w.heap.size + 1]? = some (.cells #[.int .u16 a2, .int .u16 b2, .int .u16 c2, .int .u16 d2, .int .u16 e2, .int .u8 lv2, .bool ls2, .int .u8 hv2, .bool hs2, .int .u8 ti2, .bool s2, .int .u8 u2] 28 (0, 0)) := old_in (heap_alloc2_new _ _ _) z1
  have g1 : Below w.heap.size w w1 := below_new (W := w.alloc _) ((Below.refl _ _).alloc (Nat.le_refl _) _) (by rw [World.size_alloc]; omega) z1
  have q2 := old_in q0 z2
  have o2 := old_in o0 z2
  have hlt : w.heap.size + 1 < w2.heap.size := by
    rcases Nat.lt_or_ge (w.heap.size + 1) w2.heap.size with q | q
    · exact q
    · rw [Array.getElem?_eq_none q] at o2
      cases o2
  have g2 := below_call g1 z2
  have ht : Tw w (w2.alloc (.cells #[.int .u16 (shn 8 (ld a lv)), .int .u16 (shn 8 (ld b hv)), .int .u16 (shn 8 (ld c (spr (ti % 2 == 1)))), .int .u16 (shn 8 (ld d (spr (ti / 2 % 2 == 1)))), .int .u16 (shn 8 (ld e (spr (s || ls || hs))))] 24)) w2.heap.size #[.int .u16 a, .int .u16 b, .int .u16 c, .int .u16 d, .int .u16 e, .int .u8 lv, .bool ls, .int .u8 hv, .bool hs, .int .u8 ti, .bool s, .int .u8 u] #[.int .u16 a2, .int .u16 b2, .int .u16 c2, .int .u16 d2, .int .u16 e2, .int .u8 lv2, .bool ls2, .int .u8 hv2, .bool hs2, .int .u8 ti2, .bool s2, .int .u8 u2] (shn 8 (ld a lv)) (shn 8 (ld b hv)) (shn 8 (ld c (spr (ti % 2 == 1)))) (shn 8 (ld d (spr (ti / 2 % 2 == 1)))) (shn 8 (ld e (spr (s || ls || hs)))) :=
    ⟨by rw [heap_alloc_old _ _ (Nat.lt_of_succ_lt hlt)]; exact q2, by rw [heap_alloc_old _ _ hlt]; exact o2, heap_alloc_new _ _, g2.alloc (Nat.le_of_lt (Nat.lt_of_succ_lt hlt)) _, hlt⟩
  have Ht := Lib.hid ht
  have kq := cells_of Ht.out.qbox
  have ko := cells_of Ht.out.obox
  clear z1 z2 q0 o0 g1 q2 o2 hlt g2 ht kq
  go_wp2_with fail
  refine (load_any _ _ _ _ _ lv2 hv2 ti2 s2 ls2 hs2 _ (shn8_bd 0 _).1 (shn8_bd 0 _).2 (shn8_bd 0 _).1 (shn8_bd 0 _).2 (shn8_bd 0 _).1 (shn8_bd 0 _).2 (shn8_bd 0 _).1 (shn8_bd 0 _).2 (shn8_bd 0 _).1 (shn8_bd 0 _).2 l20 l21 h20 h21 t20 t21).mono ?_
  rintro r w3 ⟨rfl, z3⟩
  have hc0 := Lib.hid (Ht.out.call z3)
  have hrow := Lib.hid (Ht.out.call z3).tile
  clear z3 ko Ht
  go_wp2_with (refine wpList_store_row rfl 24 (.tmp 5) (.tmp 32) rfl w2.heap.size _ rfl rfl 24 _ hrow.out (by kernel_rfl) rfl (one5 _ _ _ _ _) ?_)
  go_loopw [6] (fun v wr => ∃ i : Nat, i ≤ 16 ∧ v = .int .i64 i ∧ Hid (Tw w wr w2.heap.size #[.int .u16 a, .int .u16 b, .int .u16 c, .int .u16 d, .int .u16 e, .int .u8 lv, .bool ls, .int .u8 hv, .bool hs, .int .u8 ti, .bool s, .int .u8 u] #[.int .u16 a2, .int .u16 b2, .int .u16 c2, .int .u16 d2, .int .u16 e2, .int .u8 lv2, .bool ls2, .int .u8 hv2, .bool hs2, .int .u8 ti2, .bool s2, .int .u8 u2] (shn i (ld (shn 8 (ld a lv)) lv2)) (shn i (ld (shn 8 (ld b hv)) hv2)) (shn i (ld (shn 8 (ld c (spr (ti % 2 == 1)))) (spr (ti2 % 2 == 1)))) (shn i (ld (shn 8 (ld d (spr (ti / 2 % 2 == 1)))) (spr (ti2 / 2 % 2 == 1)))) (shn i (ld (shn 8 (ld e (spr (s || ls || hs)))) (spr (s2 || ls2 || hs2)))))) (fun v _ => 16 - (intOf v).toNat)
  case atStart => exact ⟨0, by omega, rfl, hc0.out.store _ _ _ _ _⟩
  case round =>
    obtain ⟨i, hi, rfl, hc⟩ := hrel
    by_cases hlt : i < 16
    · by_cases h8 : i < 8
      · have hD : dv (shn i (ld (shn 8 (ld a lv)) lv2)) (shn i (ld (shn 8 (ld b hv)) hv2)) (shn i (ld (shn 8 (ld c (spr (ti % 2 == 1)))) (spr (ti2 % 2 == 1)))) (shn i (ld (shn 8 (ld d (spr (ti / 2 % 2 == 1)))) (spr (ti2 / 2 % 2 == 1)))) 0 = ob lv i + ob hv i * 2 + ti % 4 * 4 :=
          come_dv2 i h8 a b c d lv hv ti _ _ _ _ l0 l1 h0 h1 l20 l21 h20 h21 (spr_bd _).1 (spr_bd _).2 (spr_bd _).1 (spr_bd _).2
        have hS : ds (shn i (ld (shn 8 (ld e (spr (s || ls || hs)))) (spr (s2 || ls2 || hs2)))) 0 = (s || ls || hs) := come_ds2 i h8 e _ _ (spr_bd _).1 (spr_bd _).2
        have hm : (i : Int) % 8 = i := by omega
        have f1 := ob_w lv i l0 l1
        have f2 := ob_w hv i h0 h1
        have f3 := and3 ti t0 t1
        obtain ⟨x0, x1⟩ := ob_bd lv i
        obtain ⟨y0, y1⟩ := ob_bd hv i
        obtain ⟨f4, f5⟩ := or_want (ob lv i) (ob hv i) (ti % 4) ⟨x0, x1⟩ ⟨y0, y1⟩ (by omega)
        have hq := Lib.hid hc.out.qbox
        go_wp2_with (first | (refine wpList_load_row rfl 28 (.tmp 2) rfl w.heap.size rfl 28 _ (0, 0) _ hq.out Try.underlying28 rfl (by kernel_rfl) ?_) | (refine wpList_store_row rfl 28 (.tmp 7) (.tmp 37) rfl wr.heap.size _ rfl rfl 28 _ (heap_alloc_new _ _) (by kernel_rfl) rfl (one12 _ _ _ _ _ _ _ _ _ _ _ _) ?_; rw [World.setRow_alloc_new]) | (refine wpList_load_row rfl 24 (.tmp 5) rfl w2.heap.size rfl 24 _ (0, 0) _ (hc.out.alloc _).tile Try.underlying24 rfl (by kernel_rfl) ?_))
        refine (dot_any _ _ _ _ _ 0 _ (tw_bd i _ _ l20 l21).1 (tw_bd i _ _ l20 l21).2 (tw_bd i _ _ h20 h21).1 (tw_bd i _ _ h20 h21).2 (tw_bd i _ _ (spr_bd _).1 (spr_bd _).2).1 (tw_bd i _ _ (spr_bd _).1 (spr_bd _).2).2 (tw_bd i _ _ (spr_bd _).1 (spr_bd _).2).1 (tw_bd i _ _ (spr_bd _).1 (spr_bd _).2).2 (tw_bd i _ _ (spr_bd _).1 (spr_bd _).2).1 (tw_bd i _ _ (spr_bd _).1 (spr_bd _).2).2 (by omega) (by omega)).mono ?_
        rintro r w3 ⟨rfl, z3⟩
        have k3 := cells_in z3
        have hc3 := Lib.hid ((hc.out.alloc _).call z3)
        clear z3
        go_wp2_with fail
        cases s
        · cases ls
          all_goals
          go_quiet (fail)
          go_wp2_with (refine wpList_load_row rfl 24 (.tmp 5) rfl w2.heap.size rfl 24 _ (0, 0) _ (hc3.out.drewN nq).tile Try.underlying24 rfl (by kernel_rfl) ?_)
          refine (shift_any _ _ _ _ _ _).mono ?_
          rintro r w4 ⟨rfl, z4⟩
          have hc4 := Lib.hid ((hc3.out.drewN nq).call z4)
          clear z4
          go_wp2_with (refine wpList_store_row rfl 24 (.tmp 5) (.tmp 87) rfl w2.heap.size _ rfl rfl 24 _ hc4.out.tile (by kernel_rfl) rfl (one5 _ _ _ _ _) ?_)
          go_roundw
          case rel => first | exact ⟨i + 1, by omega, by go_num, hc4.out.store _ _ _ _ _⟩ | ((repeat apply Exists.intro); exact ⟨⟨i + 1, by omega, by go_num, hc4.out.store _ _ _ _ _⟩, rfl⟩)
          case measure => simp [intOf]; omega
        · skip
          go_quiet (fail)
          go_wp2_with (refine wpList_load_row rfl 24 (.tmp 5) rfl w2.heap.size rfl 24 _ (0, 0) _ (hc3.out.drewN nq).tile Try.underlying24 rfl (by kernel_rfl) ?_)
          refine (shift_any _ _ _ _ _ _).mono ?_
          rintro r w4 ⟨rfl, z4⟩
          have hc4 := Lib.hid ((hc3.out.drewN nq).call z4)
          clear z4
          go_wp2_with (refine wpList_store_row rfl 24 (.tmp 5) (.tmp 87) rfl w2.heap.size _ rfl rfl 24 _ hc4.out.tile (by kernel_rfl) rfl (one5 _ _ _ _ _) ?_)
          go_roundw
          case rel => first | exact ⟨i + 1, by omega, by go_num, hc4.out.store _ _ _ _ _⟩ | ((repeat apply Exists.intro); exact ⟨⟨i + 1, by omega, by go_num, hc4.out.store _ _ _ _ _⟩, rfl⟩)
          case measure => simp [intOf]; omega
      · obtain ⟨j, hj⟩ : ∃ j : Nat, i = 8 + j := ⟨i - 8, by omega⟩
        have hj8 : j < 8 := by omega
        have hD : dv (shn i (ld (shn 8 (ld a lv)) lv2)) (shn i (ld (shn 8 (ld b hv)) hv2)) (shn i (ld (shn 8 (ld c (spr (ti % 2 == 1)))) (spr (ti2 % 2 == 1)))) (shn i (ld (shn 8 (ld d (spr (ti / 2 % 2 == 1)))) (spr (ti2 / 2 % 2 == 1)))) 0 = ob lv2 j + ob hv2 j * 2 + ti2 % 4 * 4 := by
          rw [hj]
          exact come_dv j hj8 _ _ _ _ lv2 hv2 ti2 l20 l21 h20 h21 t20
        have hS : ds (shn i (ld (shn 8 (ld e (spr (s || ls || hs)))) (spr (s2 || ls2 || hs2)))) 0 = (s2 || ls2 || hs2) := by
          rw [hj]
          exact come_ds j hj8 _ _
        have hm : (i : Int) % 8 = j := by omega
        have hge : (7 : Int) < i := by omega
        clear h8 hj
        have f1 := ob_w lv2 j l20 l21
        have f2 := ob_w hv2 j h20 h21
        have f3 := and3 ti2 t20 t21
        obtain ⟨x0, x1⟩ := ob_bd lv2 j
        obtain ⟨y0, y1⟩ := ob_bd hv2 j
        obtain ⟨f4, f5⟩ := or_want (ob lv2 j) (ob hv2 j) (ti2 % 4) ⟨x0, x1⟩ ⟨y0, y1⟩ (by omega)
        have hq := Lib.hid hc.out.qbox
        go_wp2_with (first | (refine wpList_load_row rfl 28 (.tmp 2) rfl w.heap.size rfl 28 _ (0, 0) _ hq.out Try.underlying28 rfl (by kernel_rfl) ?_) | (refine wpList_store_row rfl 28 (.tmp 7) (.tmp 37) rfl wr.heap.size _ rfl rfl 28 _ (heap_alloc_new _ _) (by kernel_rfl) rfl (one12 _ _ _ _ _ _ _ _ _ _ _ _) ?_; rw [World.setRow_alloc_new]) | (refine wpList_load_row rfl 28 (.tmp 3) rfl (w.heap.size + 1) rfl 28 _ (0, 0) _ (hc.out.alloc _).obox Try.underlying28 rfl (by kernel_rfl) ?_) | (refine wpList_store_row rfl 28 (.tmp 7) (.tmp 40) rfl wr.heap.size _ rfl rfl 28 _ (heap_alloc_new _ _) (by kernel_rfl) rfl (one12 _ _ _ _ _ _ _ _ _ _ _ _) ?_; rw [World.setRow_alloc_new]) | (refine wpList_load_row rfl 24 (.tmp 5) rfl w2.heap.size rfl 24 _ (0, 0) _ (hc.out.alloc _).tile Try.underlying24 rfl (by kernel_rfl) ?_))
        refine (dot_any _ _ _ _ _ 0 _ (tw_bd i _ _ l20 l21).1 (tw_bd i _ _ l20 l21).2 (tw_bd i _ _ h20 h21).1 (tw_bd i _ _ h20 h21).2 (tw_bd i _ _ (spr_bd _).1 (spr_bd _).2).1 (tw_bd i _ _ (spr_bd _).1 (spr_bd _).2).2 (tw_bd i _ _ (spr_bd _).1 (spr_bd _).2).1 (tw_bd i _ _ (spr_bd _).1 (spr_bd _).2).2 (tw_bd i _ _ (spr_bd _).1 (spr_bd _).2).1 (tw_bd i _ _ (spr_bd _).1 (spr_bd _).2).2 (by omega) (by omega)).mono ?_
        rintro r w3 ⟨rfl, z3⟩
        have k3 := cells_in z3
        have hc3 := Lib.hid ((hc.out.alloc _).call z3)
        clear z3
        go_wp2_with fail
        cases s2
        · cases ls2
          all_goals
          go_quiet (fail)
          go_wp2_with (refine wpList_load_row rfl 24 (.tmp 5) rfl w2.heap.size rfl 24 _ (0, 0) _ (hc3.out.drewN nq).tile Try.underlying24 rfl (by kernel_rfl) ?_)
          refine (shift_any _ _ _ _ _ _).mono ?_
          rintro r w4 ⟨rfl, z4⟩
          have hc4 := Lib.hid ((hc3.out.drewN nq).call z4)
          clear z4
          go_wp2_with (refine wpList_store_row rfl 24 (.tmp 5) (.tmp 87) rfl w2.heap.size _ rfl rfl 24 _ hc4.out.tile (by kernel_rfl) rfl (one5 _ _ _ _ _) ?_)
          go_roundw
          case rel => first | exact ⟨i + 1, by omega, by go_num, hc4.out.store _ _ _ _ _⟩ | ((repeat apply Exists.intro); exact ⟨⟨i + 1, by omega, by go_num, hc4.out.store _ _ _ _ _⟩, rfl⟩)
          case measure => simp [intOf]; omega
        · skip
          go_quiet (fail)
          go_wp2_with (refine wpList_load_row rfl 24 (.tmp 5) rfl w2.heap.size rfl 24 _ (0, 0) _ (hc3.out.drewN nq).tile Try.underlying24 rfl (by kernel_rfl) ?_)
          refine (shift_any _ _ _ _ _ _).mono ?_
          rintro r w4 ⟨rfl, z4⟩
          have hc4 := Lib.hid ((hc3.out.drewN nq).call z4)
          clear z4
          go_wp2_with (refine wpList_store_row rfl 24 (.tmp 5) (.tmp 87) rfl w2.heap.size _ rfl rfl 24 _ hc4.out.tile (by kernel_rfl) rfl (one5 _ _ _ _ _) ?_)
          go_roundw
          case rel => first | exact ⟨i + 1, by omega, by go_num, hc4.out.store _ _ _ _ _⟩ | ((repeat apply Exists.intro); exact ⟨⟨i + 1, by omega, by go_num, hc4.out.store _ _ _ _ _⟩, rfl⟩)
          case measure => simp [intOf]; omega
    · obtain rfl : i = 16 := by omega
      have HB := Lib.hid hc.out.below
      clear hc
      go_wp2_with fail
      refine (awake_any _).mono ?_
      rintro r w3 ⟨rfl, z3⟩
      go_wp2
      go_ret
      exact ⟨rfl, below_call HB.out z3⟩

set_option maxRecDepth 100000 in
theorem lifted (os : Os) (started : os.Started) (H : Type) (enc : TypeId × Value → H) :
    ReturnsInHanded {} Try.checked os 5 .any (Rows.tileTwoSpec.pre6 enc Try.prog Try.f5 Rows.tileTwoRow.domain false) (Rows.tileTwoSpec.post enc Try.prog Try.f5 false true false false) := by
  refine returnsInHanded_of_change (C := Try.checked) own started (by kernel_rfl) Try.func5
    (ChangeSpec.witness6 (enc := enc) (C := Try.checked) false ⟨#[], #[.agg #[.int .u16 0, .int .u16 0, .int .u16 0, .int .u16 0, .int .u16 0, .int .u8 0, .bool false, .int .u8 0, .bool false, .int .u8 0, .bool false, .int .u8 0], .agg #[.int .u16 0, .int .u16 0, .int .u16 0, .int .u16 0, .int .u16 0, .int .u8 0, .bool false, .int .u8 0, .bool false, .int .u8 0, .bool false, .int .u8 0]], []⟩ 8 (by kernel_rfl) (by kernel_rfl) (by kernel_rfl) (by kernel_rfl)) ?_
  intro W base args ds gs before hval0 hW hcnd _
  have hval : ∀ (j : Nat) t v, Try.f5.params[j]? = some t → args[j]? = some v → Value.okWide Try.prog W .any base t v := hval0
  have hW' := hW
  obtain ⟨p, q, hA0, hV, rfl, hfz, hnd⟩ := hW
  have hA : DataW.TrodAll enc Try.prog W 0 (fun _ => true) true Try.f5.params.toList args.toList ds p := hA0
  rw [Try.params5] at hA hval
  obtain ⟨v0, vs0, d0, ds0, p0, q0, hargs, rfl, rfl, h0, r0⟩ := trodAll_cons hA
  obtain ⟨v1, vs1, d1, ds1, p1, q1, rfl, rfl, rfl, h1, r1⟩ := trodAll_cons r0
  obtain ⟨rfl, rfl, rfl⟩ := trodAll_nil r1
  obtain rfl : args = #[v0, v1] := by cases args; simp_all
  obtain ⟨rfl, rfl⟩ := trodVars_none hV
  obtain ⟨a, b, c, d, e, lv, ls, hv, hs, ti, s, u, rfl, rfl, w_a, w_b, w_c, w_d, w_e, w_lv, w_hv, w_ti, w_u⟩ := open_ask (hval 0 28 v0 rfl rfl) h0
  obtain ⟨a2, b2, c2, d2, e2, lv2, ls2, hv2, hs2, ti2, s2, u2, rfl, rfl, w_a2, w_b2, w_c2, w_d2, w_e2, w_lv2, w_hv2, w_ti2, w_u2⟩ := open_ask (hval 1 28 v1 rfl rfl) h1
  clear hA0 hval0
  simp only [List.append_nil] at hW'
  refine (walk a b c d e lv ls hv hs ti s u w_a w_b w_c w_d w_e w_lv w_hv w_ti w_u a2 b2 c2 d2 e2 lv2 ls2 hv2 hs2 ti2 s2 u2 w_a2 w_b2 w_c2 w_d2 w_e2 w_lv2 w_hv2 w_ti2 w_u2 W).mono fun e W' ⟨he, hg⟩ => ?_
  subst he
  exact ⟨_, rfl, _, _, _, [], _, [], hW', trodAll_mk1 (shut_bool Try.underlying4 _), (trodAll_cons_mk (stay28 h0) (trodAll_cons_mk (stay28 h1) trodAll_mk0)), rfl, hg.frame _, fun h => by cases h⟩

theorem over : Rows.tileTwoRow.holds Try.pinned (OpenSpec.ofChange Rows.tileTwoSpec) :=
  OpenClaim.holds_of_wide 5 Try.f5 rfl rfl rfl rfl rfl rfl rfl ⟨rfl, rfl, rfl, rfl, rfl⟩ rfl rfl rfl rfl rfl (by kernel_rfl) Try.func5 (by kernel_rfl)
    (of_decide_eq_true (by kernel_rfl)) (by unfold Func.isWrapper; first | (rw [if_pos (by decide +kernel)]; kernel_rfl) | (rw [if_neg (by decide +kernel)]; exact ⟨rfl, rfl⟩))
    (fun os started H enc _ => lifted os started H enc)

/-- THE STATEMENT -/
theorem proved : Rows.TileTwoSaid :=
  over
#print axioms proved
end Go.Proofs.Ytnmobjjinidmiaa.tileTwo
