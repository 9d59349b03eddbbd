/-
  ScrollStays: at every input the law returns true and leaves its arguments as they were. No condition.
-/
import Derived.Test.YtleggfpcgdpoaaaE
import Derived.Test.YtleggfpcgdpoaaaF
import Derived.OpenShut
import Derived.BigQuiet
import Derived.Deep.DeepCutAuto
import Derived.Deep.RegionHeld3
import Derived.ChangeSlices
namespace Go.Proofs.Ytleggfpcgdpoaaa.scrollStays
open Go.Proofs.Ytleggfpcgdpoaaa
open Go.ChangeShapes Go.WideShapes Go.ChangeAt Go.RowKit
set_option linter.unusedVariables false
theorem m1023 : Mask 1023 (fun n => n % 1024) := by
  have h := mask_run 0 10 1023 rfl (by omega)
  refine ⟨h.1, fun n hn => ?_⟩
  rw [h.2 n hn]
  simp
theorem stays_plain (v : Int) (v0 : 0 ≤ v) (v1 : v ≤ 32767) : ∃ Ti Ts c : Int, ti v = Ti ∧ ts v = Ts ∧ 9152 ≤ Ti ∧ Ti ≤ 12287 ∧ bits .and .u16 Ti 1023 = c ∧ 960 ≤ c ∧ c ≤ 1023 ∧ bits .and .i64 Ts 1 = 0 ∧ 0 ≤ Ts ∧ Ts ≤ 6 := by
  have hs : ts v = 0 ∨ ts v = 2 ∨ ts v = 4 ∨ ts v = 6 := by unfold ts; omega
  have h1 : 9152 ≤ ti v ∧ ti v ≤ 12287 ∧ 960 ≤ ti v % 1024 := by
    unfold ti
    obtain ⟨q, hq⟩ : ∃ q, v / 1024 % 4 = q := ⟨_, rfl⟩
    obtain ⟨r, hr⟩ : ∃ r, v / 128 % 8 = r := ⟨_, rfl⟩
    obtain ⟨u, hu⟩ : ∃ u, v / 4 % 8 = u := ⟨_, rfl⟩
    have q0 : 0 ≤ q ∧ q ≤ 3 := by omega
    have r0 : 0 ≤ r ∧ r ≤ 7 := by omega
    have u0 : 0 ≤ u ∧ u ≤ 7 := by omega
    rw [hq, hr, hu]
    clear hq hr hu hs v0 v1
    omega
  refine ⟨_, _, _, rfl, rfl, h1.1, h1.2.1, m1023.and _ (by omega) (by omega), h1.2.2, by show ti v % 1024 ≤ 1023; omega, ?_, by omega, by omega⟩
  rcases hs with h | h | h | h <;> rw [h] <;> decide
structure Two4 (w x : World) (T : Nat) (v t y : Int) (b : Bool) (v1 t1 y1 : Int) (b1 : Bool) : Prop where
  box : Row4 x w.heap.size v t y b
  new : Row4 x T v1 t1 y1 b1
  below : Below w.heap.size w x
  ne : w.heap.size ≠ T
theorem Two4.call {w x y : World} {T : Nat} {v t z : Int} {b : Bool} {v1 t1 z1 : Int} {b1 : Bool} (h : Two4 w x T v t z b v1 t1 z1 b1) (hb : Below x.heap.size x y) : Two4 w y T v t z b v1 t1 z1 b1 :=
  ⟨old_in h.box hb, old_in h.new hb, below_call h.below hb, h.ne⟩
theorem set4 {x : World} {R : Nat} {v t y : Int} {b : Bool} (h : Row4 x R v t y b) (v' t' y' : Int) (b' : Bool) : Row4 ((((x.setCell ⟨R, 0, none⟩ (.int .u16 v')).setCell ⟨R, 1, none⟩ (.int .u16 t')).setCell ⟨R, 2, none⟩ (.int .u8 y')).setCell ⟨R, 3, none⟩ (.bool b')) R v' t' y' b' := by
  have h0 := heap_setCell_same x R 0 _ 24 (.int .u16 v') h
  have h1 := heap_setCell_same _ R 1 _ 24 (.int .u16 t') h0
  have h2 := heap_setCell_same _ R 2 _ 24 (.int .u8 y') h1
  have h3 := heap_setCell_same _ R 3 _ 24 (.bool b') h2
  exact h3
theorem set4_other {x : World} {R k : Nat} {o : Obj} (hk : k ≠ R) (h : x.heap[k]? = some o) (a b c d : Value) : ((((x.setCell ⟨R, 0, none⟩ a).setCell ⟨R, 1, none⟩ b).setCell ⟨R, 2, none⟩ c).setCell ⟨R, 3, none⟩ d).heap[k]? = some o := by
  rw [heap_setCell_other _ _ _ _ hk, heap_setCell_other _ _ _ _ hk, heap_setCell_other _ _ _ _ hk, heap_setCell_other _ _ _ _ hk]
  exact h
theorem set4_below {B : Nat} {w x : World} (h : Below B w x) {R : Nat} (hR : B ≤ R) (a b c d : Value) : Below B w ((((x.setCell ⟨R, 0, none⟩ a).setCell ⟨R, 1, none⟩ b).setCell ⟨R, 2, none⟩ c).setCell ⟨R, 3, none⟩ d) :=
  (((h.setCell (p := ⟨R, 0, none⟩) hR _).setCell (p := ⟨R, 1, none⟩) hR _).setCell (p := ⟨R, 2, none⟩) hR _).setCell (p := ⟨R, 3, none⟩) hR _
theorem wayA {w W w2 : World} {v t y : Int} {b : Bool} (hB : Row4 W w.heap.size v t y b) (hG : Below w.heap.size w W) (z : Below W.drew.heap.size W.drew w2) (v1 t1 y1 : Int) (b1 : Bool) :
    Two4 w (w2.alloc (.cells #[.int .u16 v1, .int .u16 t1, .int .u8 y1, .bool b1] 24)) w2.heap.size v t y b v1 t1 y1 b1 := by
  have h2 : Row4 w2 w.heap.size v t y b := old_in (W := W.drew) hB z
  have g2 : Below w.heap.size w w2 := below_call (W := W.drew) hG.drew z
  exact ⟨old_new h2 _, heap_alloc_new _ _, g2.alloc g2.size _, Nat.ne_of_lt (lt_of_row h2)⟩
theorem wayB {w W w2 : World} {v t y : Int} {b : Bool} (hB : Row4 W w.heap.size v t y b) (hG : Below w.heap.size w W)
    (z : Below (W.drew.alloc (.cells #[.int .u16 0, .int .u16 0, .int .u8 0, .bool false] 24)).heap.size (W.drew.alloc (.cells #[.int .u16 0, .int .u16 0, .int .u8 0, .bool false] 24)) w2) (v1 t1 y1 : Int) (b1 : Bool) :
    Two4 w ((((w2.setCell ⟨W.heap.size, 0, none⟩ (.int .u16 v1)).setCell ⟨W.heap.size, 1, none⟩ (.int .u16 t1)).setCell ⟨W.heap.size, 2, none⟩ (.int .u8 y1)).setCell ⟨W.heap.size, 3, none⟩ (.bool b1)) W.heap.size v t y b v1 t1 y1 b1 := by
  have hlt := lt_of_row hB
  have h2 : Row4 w2 w.heap.size v t y b := old_in (W := W.drew.alloc _) ((heap_alloc_old W.drew _ hlt).trans hB) z
  have n2 : Row4 w2 W.heap.size 0 0 0 false := new_at (W := W.drew) z rfl
  have g2 : Below w.heap.size w w2 := below_new (W := W.drew) hG.drew (Nat.le_of_lt hlt) z
  exact ⟨set4_other (Nat.ne_of_lt hlt) h2 _ _ _ _, set4 n2 v1 t1 y1 b1, set4_below g2 (Nat.le_of_lt hlt) _ _ _ _, Nat.ne_of_lt hlt⟩
theorem bcell {w w' : World} (h : Below w.heap.size w w') : (∀ b o, b < w.heap.size → w'.cell? ⟨b, o, none⟩ = w.cell? ⟨b, o, none⟩) ∧ (∀ b o, b < w.heap.size → w'.frozen? ⟨b, o, none⟩ = w.frozen? ⟨b, o, none⟩) :=
  ⟨fun b o hb => h.cell (p := ⟨b, o, none⟩) hb, fun b o hb => h.frozen (p := ⟨b, o, none⟩) hb⟩
theorem drew_size {B : Nat} {W w1 : World} (z : Below B W.drew w1) : W.heap.size ≤ w1.heap.size := z.size
theorem alloc_size {W w1 : World} {o : Obj} (z : Below (W.drew.alloc o).heap.size (W.drew.alloc o) w1) : W.heap.size < w1.heap.size := Nat.lt_of_lt_of_le (by rw [World.size_alloc]; exact Nat.lt_succ_self _) z.size
theorem alloc_size' {W w1 : World} {o : Obj} (z : Below (W.alloc o).drew.heap.size (W.alloc o).drew w1) : W.heap.size < w1.heap.size := Nat.lt_of_lt_of_le (by show W.heap.size < (W.alloc o).heap.size; rw [World.size_alloc]; exact Nat.lt_succ_self _) z.size
theorem below_set {B : Nat} {a w : World} (h : Below B a w) {g j : Nat} (hg : B ≤ g) (v : Value) : Below B a (w.setCell ⟨g, j, none⟩ v) := h.setCell (p := ⟨g, j, none⟩) hg v

/-- a slice of numbers, read -/
def Nums (w : World) (A : Option Addr) (len : Nat) : Prop := ∀ i, i < len → ∃ (a : Addr) (z : Int), A = some a ∧ a.block < w.heap.size ∧ w.cell? (a.add i) = some (.int .u16 z) ∧ 0 ≤ z ∧ z ≤ 65535
set_option maxRecDepth 100000 in
set_option maxHeartbeats 8000000 in
theorem walk (v t x : Int) (b : Bool) (w_v : (Lit.int .u16 v).wf = true) (w_t : (Lit.int .u16 t).wf = true) (w_x : (Lit.int .u8 x).wf = true) (A : Option Addr) (len cap : Nat) (hl : len ≤ cap) (hm : cap ≤ maxLen) (w : World) (hA : Nums w A len) :
    Calls Try.prog 7 #[.agg #[.int .u16 v, .int .u16 t, .int .u8 x, .bool b], .slice A len cap] w fun r w' => r = .returned (.bool true) ∧ Below w.heap.size w w' := by
  obtain ⟨v0, v1⟩ := bounds_u16 w_v
  obtain ⟨t0, t1⟩ := bounds_u16 w_t
  obtain ⟨x0, x1⟩ := bounds_u8 w_x
  clear w_v w_t w_x
  by_cases hok : v ≤ 32767 ∧ t ≤ 32767 ∧ x ≤ 7
  · obtain ⟨v2, t2, x2⟩ := hok
    go_enter Try.func7, Try.ntmps7
    go_wp2_with fail
    refine (check_ok v t x b _ v2 t2 x2).mono ?_
    rintro e w1 ⟨rfl, z1⟩
    have hS := Lib.hid (old_in (heap_alloc_new w (.cells #[.int .u16 v, .int .u16 t, .int .u8 x, .bool b] 24)) z1)
    have hG := Lib.hid (below_new (Below.refl _ _) (Nat.le_refl _) z1)
    clear z1
    go_wp2_with fail
    go_loopw [5] (fun i wr => ∃ j : Nat, j ≤ 60 ∧ j ≤ len ∧ i = .int .i64 j ∧ ∃ (v t x : Int) (b : Bool), ((0 ≤ v ∧ v ≤ 32767) ∧ (0 ≤ t ∧ t ≤ 32767) ∧ 0 ≤ x ∧ x ≤ 7) ∧ Hid (Row4 wr w.heap.size v t x b) ∧ Hid (Below w.heap.size w wr)) (fun i _ => 60 - (intOf i).toNat)
    case atStart => exact ⟨0, by omega, by omega, rfl, v, t, x, b, ⟨⟨v0, v2⟩, ⟨t0, t2⟩, x0, x2⟩, hS.out, hG.out⟩
    case round =>
      clear hS hG v0 v1 v2 t0 t1 t2 x0 x1 x2
      obtain ⟨j, hj, hjl, rfl, v, t, x, b, ⟨⟨v0, v1⟩, ⟨t0, t1⟩, x0, x1⟩, hS, hG⟩ := hrel
      by_cases hlt : j < len
      · by_cases h60 : j < 60
        · obtain ⟨a, z, rfl, hab, hz, z0, z1⟩ := hA j hlt
          have ha : (a.add j).block = a.block := by unfold Addr.add; split <;> rfl
          obtain ⟨k, hk⟩ : ∃ k : Nat, z / 256 % 10 = k := ⟨(z / 256 % 10).toNat, by omega⟩
          have hk10 : k < 10 := by omega
          have hkm : (z / 256).tmod 10 = k := by rw [Int.tmod_eq_emod_of_nonneg (by omega)]; exact hk
          have hkw : IntKind.i64.wrap (z / 256) = z / 256 := IntWalk.i64_in _ (by omega)
          have hz8 : IntKind.u8.wrap z = z % 256 := IntKind.wrap_u8 _
          have hkb := do_bd k v t x (z % 256) b hk10 v0 v1 t0 t1 x0 x1 (by omega) (by omega)
          go_upto_region 6 with fail
          go_cut [6, 7] (fun p e y => ∃ T : Nat, p = .pointer (some ⟨T, 0, none⟩) ∧ e = .int .i64 0 ∧ Hid (Two4 w y T v t x b (dV k v t (z % 256) b) (dT k t (z % 256) b) (dX k x (z % 256) b) (dB k b)))
          case first =>
            have hcell : ∀ y, Below wr.heap.size wr y → ∀ j, y.cell? ⟨w.heap.size, j, none⟩ = (#[.int .u16 v, .int .u16 t, .int .u8 x, .bool b] : Array Value)[j]? := fun y hy => cells_of (old_in hS.out hy)
            have hread : ∀ y, Below wr.heap.size wr y → y.cell? (a.add j) = some (.int .u16 z) := fun y hy => (hy.cell (by rw [ha]; exact Nat.lt_of_lt_of_le hab hG.out.size)).trans ((hG.out.cell (by rw [ha]; exact hab)).trans hz)
            go_region_held3 (fun y => Below wr.heap.size wr y) (repeat' (first | (with_reducible assumption) | (with_reducible exact (Below.refl _ _).drew) | (with_reducible exact Below.refl _ _) | (with_reducible refine below_set ?_ ?_ _) | (with_reducible refine Below.alloc ?_ ?_ _) | (with_reducible refine Below.drew ?_) | (refine below_call ?_ z2) | (with_reducible exact Nat.le_refl _) | omega | (rw [World.size_drew]) | (rw [World.size_alloc]) | (rw [World.size_setCell]))) (first | (go_at_call 17; refine (do_any k v t x (z % 256) b _ hk10 v0 v1 t0 t1 x1 (by omega) (by omega)).mono ?_; rintro r w2 ⟨rfl, z2⟩; obtain ⟨kc2, kf2⟩ := bcell z2; (first | have q2 := alloc_size z2 | have q2 := alloc_size' z2 | have q2 := drew_size z2 | skip)))
            · go_wp2_with fail
              go_meet
              case rel => exact ⟨_, rfl, rfl, wayA hS.out hG.out z2 _ _ _ _⟩
            · go_wp2_with fail
              go_meet
              case rel => exact ⟨_, rfl, rfl, wayB hS.out hG.out z2 _ _ _ _⟩
          case rest =>
            obtain ⟨T, rfl, rfl, hc⟩ := hcut
            obtain ⟨⟨p0, p1⟩, ⟨s0, s1⟩, y0, y1⟩ := hkb
            clear hS hG hz
            generalize dV k v t (z % 256) b = p at p0 p1 hc
            generalize dT k t (z % 256) b = s at s0 s1 hc
            generalize dX k x (z % 256) b = y at y0 y1 hc
            generalize dB k b = g at hc
            obtain ⟨Ti, Ts, c, e1, e2, i0, i1, fc, c0, c1, fs, u0, u1⟩ := stays_plain p p0 p1
            have kn := cells_of hc.out.new
            go_wp2_with fail
            refine (tint_ok p s y g _ p0 p1 s1 y1).mono ?_
            rintro e w2 ⟨he, z2⟩
            rw [e1, e2] at he
            subst he
            replace hc := Lib.hid (hc.out.call z2)
            clear kn z2
            have kn := cells_of hc.out.new
            go_wp2_with fail
            refine (tile_ok p s y g _ p0 p1 s1 y1).mono ?_
            rintro e w3 ⟨rfl, z3⟩
            replace hc := Lib.hid (hc.out.call z3)
            clear kn z3
            have kn := cells_of hc.out.new
            go_wp2_with fail
            refine (check_ok p s y g _ p1 s1 y1).mono ?_
            rintro e w4 ⟨rfl, z4⟩
            replace hc := Lib.hid (hc.out.call z4)
            clear kn z4
            have kn := cells_of hc.out.new
            go_wp2_with fail
            refine (row_ok p s y g _ p0 p1 s1 y1).mono ?_
            rintro e w5 ⟨rfl, z5⟩
            replace hc := Lib.hid (hc.out.call z5)
            clear kn z5
            have kn := cells_of hc.out.new
            have hbx := Lib.hid hc.out.box
            go_wp2_with (refine wpList_store_row rfl 24 (.tmp 2) (.tmp 91) rfl w.heap.size _ rfl rfl 24 _ hbx.out (by kernel_rfl) rfl (one4 _ _ _ _) ?_)
            go_roundw
            case rel => exact ⟨j + 1, by omega, by omega, by go_num, p, s, y, g, ⟨⟨p0, p1⟩, ⟨s0, s1⟩, y0, y1⟩, setRow_heap _ _ _ _ _ _ hbx.out, Below.setRow hc.out.below (Nat.le_refl _) _⟩
            case measure => simp [intOf]; omega
        · obtain rfl : j = 60 := by omega
          go_wp2_with fail
          refine (awake_any _).mono ?_
          rintro e w1 ⟨rfl, z1⟩
          go_wp2
          go_ret
          exact ⟨rfl, below_call hG.out z1⟩
      · obtain rfl : j = len := by omega
        go_wp2_with fail
        refine (awake_any _).mono ?_
        rintro e w1 ⟨rfl, z1⟩
        go_wp2
        go_ret
        exact ⟨rfl, below_call hG.out z1⟩
  · go_enter Try.func7, Try.ntmps7
    go_wp2_with fail
    refine (check_bad v t x b _ hok).mono ?_
    rintro e w1 ⟨rfl, z1⟩
    have hG := Lib.hid (below_new (Below.refl w.heap.size w) (Nat.le_refl _) z1)
    clear z1
    go_wp2_with fail
    refine (awake_any _).mono ?_
    rintro e w2 ⟨rfl, z2⟩
    go_wp2
    go_ret
    exact ⟨rfl, below_call hG.out z2⟩

theorem rr44 : Try.prog.readableRec 44 = true := by kernel_rfl
theorem tsz44 : 44 < Try.prog.types.size := of_decide_eq_true (by kernel_rfl)
set_option maxRecDepth 100000 in
theorem lifted (os : Os) (started : os.Started) (H : Type) (enc : TypeId × Value → H) :
    ReturnsInHanded {} Try.checked os 7 .any (Rows.scrollStaysSpec.pre6 enc Try.prog Try.f7 Rows.scrollStaysRow.domain false) (Rows.scrollStaysSpec.post enc Try.prog Try.f7 false true false false) := by
  refine returnsInHanded_of_change (C := Try.checked) own started (by kernel_rfl) Try.func7
    (ChangeSpec.witness6 (enc := enc) (C := Try.checked) false ⟨#[], #[.agg #[.int .u16 0, .int .u16 0, .int .u8 0, .bool false], .slice none 0 0], []⟩ 8 (by kernel_rfl) (by kernel_rfl) (by kernel_rfl) (by kernel_rfl)) ?_
  intro W base args ds gs before hval0 hW hcnd _
  have hval : ∀ (j : Nat) t v, Try.f7.params[j]? = some t → args[j]? = some v → Value.okWide Try.prog W .any base t v := hval0
  have hW' := hW
  obtain ⟨p, q, hA0, hV, rfl, hfz, hnd⟩ := hW
  have hA : DataW.TrodAll enc Try.prog W 0 (fun _ => true) true Try.f7.params.toList args.toList ds p := hA0
  rw [Try.params7] at hA hval
  obtain ⟨v0, vs0, d0, ds0, p0, q0, hargs, rfl, rfl, h0, r0⟩ := trodAll_cons hA
  obtain ⟨v1, vs1, d1, ds1, p1, q1, rfl, rfl, rfl, h1, r1⟩ := trodAll_cons r0
  obtain ⟨rfl, rfl, rfl⟩ := trodAll_nil r1
  obtain rfl : args = #[v0, v1] := by cases args; simp_all
  obtain ⟨rfl, rfl⟩ := trodVars_none hV
  obtain ⟨v, t, x, b, rfl, rfl, w_v, w_t, w_x⟩ := open_scroll (hval 0 24 v0 rfl rfl) h0
  obtain ⟨A, len, cap, rfl⟩ := okWide_slice Try.underlying44 (hval 1 44 v1 rfl rfl)
  have hlt : ∀ y ∈ p1, y.block < W.heap.size := fun y hy => hW'.lt y (by simp [hy])
  obtain ⟨hl, hm, hN⟩ : len ≤ cap ∧ cap ≤ maxLen ∧ Nums W A len := by
    obtain ⟨fuel, hf⟩ := h1
    rcases open_ints Try.underlying44 Try.underlying22 cells22 hf with ⟨hcs, hx⟩ | ⟨a, l2, c2, zs, hcs, _, hl, hm, hz, hx, hcell, hw⟩
    · simp [Value.cells] at hcs
      obtain ⟨rfl, rfl, rfl⟩ := hcs
      exact ⟨Nat.le_refl _, Nat.zero_le _, fun i hi => by omega⟩
    · simp [Value.cells] at hcs
      obtain ⟨rfl, rfl, rfl⟩ := hcs
      simp only [if_true] at hz
      refine ⟨hl, hm, fun i hi => ?_⟩
      have hc := hcell i (by omega)
      refine ⟨a, zs.getD i 0, rfl, ?_, hc, ?_⟩
      · have hb : (a.add i).block = a.block := by unfold Addr.add; split <;> rfl
        rcases Nat.lt_or_ge a.block W.heap.size with h | h
        · exact h
        · have hn : W.heap[(a.add i).block]? = none := by rw [hb]; exact Array.getElem?_eq_none h
          simp [World.cell?, hn] at hc
      · exact bounds_u16 (hw _ (by rw [List.getD_eq_getElem?_getD, List.getElem?_eq_getElem (by omega)]; exact List.getElem_mem _))
  clear hA0 hval0
  refine (walk v t x b w_v w_t w_x A len cap hl hm W hN).mono fun e W' ⟨he, hg⟩ => ?_
  subst he
  exact ⟨_, rfl, _, _, _, [], _, [], hW', trodAll_mk1 (shut_bool Try.underlying4 _), (trodAll_cons_mk (stay24 h0) (trodAll_cons_mk (WideElems.Trod_stays laidOut rr44 tsz44 h1 (fun y hy => hg.same (hlt y hy)) (fun y hy => by simpa using hlt y hy)) trodAll_mk0)), rfl, hg.frame _, fun h => by cases h⟩

theorem over : Rows.scrollStaysRow.holds Try.pinned (OpenSpec.ofChange Rows.scrollStaysSpec) :=
  OpenClaim.holds_of_wide 7 Try.f7 rfl rfl rfl rfl rfl rfl rfl ⟨rfl, rfl, rfl, rfl, rfl⟩ rfl rfl rfl rfl rfl (by kernel_rfl) Try.func7 (by kernel_rfl)
    (of_decide_eq_true (by kernel_rfl)) (by unfold Func.isWrapper; first | (rw [if_pos (by decide +kernel)]; kernel_rfl) | (rw [if_neg (by decide +kernel)]; exact ⟨rfl, rfl⟩))
    (fun os started H enc _ => lifted os started H enc)

/-- THE STATEMENT -/
theorem proved : Rows.ScrollStaysSaid :=
  over
#print axioms proved
end Go.Proofs.Ytleggfpcgdpoaaa.scrollStays
