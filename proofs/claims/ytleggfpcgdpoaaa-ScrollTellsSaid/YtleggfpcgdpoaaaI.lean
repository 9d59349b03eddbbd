/- The contracts of the reference's Do (by its number), Tile and Tint. -/
import Derived.Test.YtleggfpcgdpoaaaH
namespace Go.Proofs.Ytleggfpcgdpoaaa
open Go.ChangeShapes Go.WideShapes Go.ChangeAt Go.RowKit
set_option linter.unusedVariables false
/-- a number taken apart, by its parts -/
theorem apart_pt (a b h k f : Int) (w : World) (s : Five a b h k f) :
    Calls Try.prog 25 #[.int .u16 (pt a b h k f)] w fun e w' => e = .returned (.agg #[.int .i64 a, .int .i64 b, .int .i64 h, .int .i64 k, .int .i64 f]) ∧ Below w.heap.size w w' := by
  obtain ⟨p0, p1⟩ := pt_bd s
  obtain ⟨q1, q2, q3, q4, q5⟩ := pt_parts s
  have q := apart_any (pt a b h k f) w p0 p1
  rw [q1, q2, q3, q4, q5] at q
  exact q
theorem at_dr (x : World) (k : Nat) : x.drew.heap[k]? = x.heap[k]? := rfl
theorem ct_pt {a b h k f : Int} (s : Five a b h k f) (n : Int) (n0 : 0 ≤ n) : ct (pt a b h k f) n = pt a b (n % 2) (n / 2 % 2) f := by
  obtain ⟨q6, _, _⟩ := pt_more s
  unfold ct
  rw [q6]
  unfold pt
  omega
set_option maxRecDepth 100000 in
set_option maxHeartbeats 20000000 in
theorem rdo_any (m : Nat) (M : Int) (hM : M = (m : Int)) (a b h k f a' b' h' k' f' v t x n v2 t2 x2 : Int) (g g2 : Bool) (w : World) (hm : m < 10) (s : Five a b h k f) (s' : Five a' b' h' k' f') (hv : pt a b h k f = v) (ht : pt a' b' h' k' f' = t) (x0 : 0 ≤ x) (x1 : x ≤ 7) (n0 : 0 ≤ n) (n1 : n ≤ 255)
    (hres : dV m v t n g = v2 ∧ dT m t n g = t2 ∧ dX m x n g = x2 ∧ dB m g = g2) :
    Calls Try.prog 23 #[.agg #[.int .u16 v, .int .u16 t, .int .u8 x, .bool g], .int .i64 M, .int .u8 n] w fun e w' => e = .returned (.agg #[.int .u16 v2, .int .u16 t2, .int .u8 x2, .bool g2]) ∧ Below w.heap.size w w' := by
  have hapV : ∀ w : World, _ := fun w => apart_pt a b h k f w s
  have hapT : ∀ w : World, _ := fun w => apart_pt a' b' h' k' f' w s'
  rw [hv] at hapV
  rw [ht] at hapT
  have HV := Lib.hid hapV
  have HT := Lib.hid hapT
  have Hhv := Lib.hid hv
  have Hht := Lib.hid ht
  have Hres := Lib.hid hres
  have HM := Lib.hid hM
  clear hapV hapT
  obtain ⟨v0, v1⟩ := pt_bd s
  obtain ⟨t0, t1⟩ := pt_bd s'
  rw [hv] at v0 v1
  rw [ht] at t0 t1
  have tm1 : t.tmod 256 = t % 256 := Int.tmod_eq_emod_of_nonneg t0
  have td1 : t.tdiv 256 = t / 256 := Int.tdiv_eq_ediv_of_nonneg t0
  have td2 : IntKind.u16.wrap (t / 256) = t / 256 := IntWalk.u16_in _ (by omega)
  have nm1 : n.tmod 64 = n % 64 := Int.tmod_eq_emod_of_nonneg n0
  have nm2 : n.tmod 8 = n % 8 := Int.tmod_eq_emod_of_nonneg n0
  have nd2 : n.tdiv 8 = n / 8 := Int.tdiv_eq_ediv_of_nonneg n0
  have nm3 : n.tmod 2 = n % 2 := Int.tmod_eq_emod_of_nonneg n0
  have nd3 : n.tdiv 2 = n / 2 := Int.tdiv_eq_ediv_of_nonneg n0
  have nm4 : (n / 2).tmod 2 = n / 2 % 2 := Int.tmod_eq_emod_of_nonneg (by omega)
  have em1 : (v + 1).tmod 32768 = (v + 1) % 32768 := Int.tmod_eq_emod_of_nonneg (by omega)
  have em2 : (v + 32).tmod 32768 = (v + 32) % 32768 := Int.tmod_eq_emod_of_nonneg (by omega)
  clear hv ht hres hM
  go_enter Try.func23, Try.ntmps23
  go_upto_region 2 with fail
  go_cut [8, 9] (fun p q y => ∃ T V : Nat, p = .pointer (some ⟨T, 0, none⟩) ∧ q = .pointer (some ⟨V, 0, none⟩) ∧ Hid (Par w y T V #[.int .u16 v, .int .u16 t, .int .u8 x, .bool g] #[.int .i64 a', .int .i64 b', .int .i64 h', .int .i64 k', .int .i64 f'] #[.int .i64 a, .int .i64 b, .int .i64 h, .int .i64 k, .int .i64 f]))
  case first =>
    generalize hW : World.alloc _ _ = W
    have hS : W.heap[w.heap.size]? = some (.cells #[.int .u16 v, .int .u16 t, .int .u8 x, .bool g] 24 (0, 0)) := by rw [← hW]; exact heap_alloc2_old _ _ _
    have hR : W.heap[w.heap.size + 1]? = some (.cells #[.int .u16 0, .int .u16 0, .int .u8 0, .bool false] 24 (0, 0)) := by rw [← hW]; exact at_new2 _ _ _
    have hG : Below w.heap.size w W := by rw [← hW]; exact ((Below.refl w.heap.size w).alloc (Nat.le_refl _) _).alloc (by rw [World.size_alloc]; exact Nat.le_succ _) _
    have hlt : w.heap.size + 1 < W.heap.size := lt_of_row hR
    clear hW
    have HS := Lib.hid hS
    have HR := Lib.hid hR
    have HG := Lib.hid hG
    clear hR hG
    have hcell : ∀ y, Below W.heap.size W y → ∀ j, y.cell? ⟨w.heap.size, j, none⟩ = (#[.int .u16 v, .int .u16 t, .int .u8 x, .bool g] : Array Value)[j]? := fun y hy => cells_of (old_in HS.out hy)
    clear hS
    have hz0 : ∀ (x : World) (j : Nat), x.frozen? ⟨x.heap.size, j, none⟩ = false := fun x j => by simp [World.frozen?]
    have hz1 : ∀ (x : World) (j : Nat), x.frozen? ⟨x.heap.size + 1, j, none⟩ = false := fun x j => by simp [World.frozen?]
    go_region_held3 (fun y => Below W.heap.size W y) (repeat' (first | (with_reducible assumption) | (with_reducible exact (Below.refl _ _).drew) | (with_reducible exact Below.refl _ _) | (with_reducible refine below_set ?_ ?_ _) | (with_reducible refine Below.alloc ?_ ?_ _) | (with_reducible refine Below.drew ?_) | (refine below_call ?_ z1) | (refine below_call ?_ z2) | (with_reducible exact Nat.le_refl _) | omega | (rw [World.size_drew]) | (rw [World.size_alloc]) | (rw [World.size_setCell]))) (first | (go_at_call_of 25 (Value.int IntKind.u16 t); refine (HT.out _).mono ?_; rintro r w1 ⟨rfl, z1⟩; obtain ⟨kc1, kf1⟩ := bcell z1; have q1 := z1.size; (repeat (first | rw [World.size_drew] at q1 | rw [World.size_alloc] at q1)); (first | have g11 : W.heap.size < w1.heap.size := by omega | skip); (first | have g12 : W.heap.size ≤ w1.heap.size := by omega | skip); (first | have g13 : W.heap.size ≠ w1.heap.size := by omega | skip); (first | have g14 : w1.heap.size ≠ W.heap.size := by omega | skip); (first | have g15 : W.heap.size + 1 < w1.heap.size := by omega | skip); (first | have g16 : W.heap.size + 1 ≤ w1.heap.size := by omega | skip); (first | have g17 : W.heap.size + 1 ≠ w1.heap.size := by omega | skip); (first | have g18 : w1.heap.size ≠ W.heap.size + 1 := by omega | skip); (first | have g19 : w2.heap.size < w1.heap.size := by omega | skip); (first | have g110 : w2.heap.size ≤ w1.heap.size := by omega | skip); (first | have g111 : w2.heap.size ≠ w1.heap.size := by omega | skip); (first | have g112 : w1.heap.size ≠ w2.heap.size := by omega | skip); (first | have g113 : w2.heap.size + 1 < w1.heap.size := by omega | skip); (first | have g114 : w2.heap.size + 1 ≤ w1.heap.size := by omega | skip); (first | have g115 : w2.heap.size + 1 ≠ w1.heap.size := by omega | skip); (first | have g116 : w1.heap.size ≠ w2.heap.size + 1 := by omega | skip)) | (go_at_call_of 25 (Value.int IntKind.u16 v); refine (HV.out _).mono ?_; rintro r w2 ⟨rfl, z2⟩; obtain ⟨kc2, kf2⟩ := bcell z2; have q2 := z2.size; (repeat (first | rw [World.size_drew] at q2 | rw [World.size_alloc] at q2)); (first | have g21 : W.heap.size < w2.heap.size := by omega | skip); (first | have g22 : W.heap.size ≤ w2.heap.size := by omega | skip); (first | have g23 : W.heap.size ≠ w2.heap.size := by omega | skip); (first | have g24 : w2.heap.size ≠ W.heap.size := by omega | skip); (first | have g25 : W.heap.size + 1 < w2.heap.size := by omega | skip); (first | have g26 : W.heap.size + 1 ≤ w2.heap.size := by omega | skip); (first | have g27 : W.heap.size + 1 ≠ w2.heap.size := by omega | skip); (first | have g28 : w2.heap.size ≠ W.heap.size + 1 := by omega | skip); (first | have g29 : w1.heap.size < w2.heap.size := by omega | skip); (first | have g210 : w1.heap.size ≤ w2.heap.size := by omega | skip); (first | have g211 : w1.heap.size ≠ w2.heap.size := by omega | skip); (first | have g212 : w2.heap.size ≠ w1.heap.size := by omega | skip); (first | have g213 : w1.heap.size + 1 < w2.heap.size := by omega | skip); (first | have g214 : w1.heap.size + 1 ≤ w2.heap.size := by omega | skip); (first | have g215 : w1.heap.size + 1 ≠ w2.heap.size := by omega | skip); (first | have g216 : w2.heap.size ≠ w1.heap.size + 1 := by omega | skip)))
    all_goals
      go_wp2_with fail
      go_meet
      case rel =>
        have hS := HS.out
        have hR := HR.out
        refine ⟨_, _, rfl, rfl, Par.mk ?_ ?_ ?_ ?_ (below_call HG.out ?_) ?_ ?_ ?_⟩
        · repeat' (first | (with_reducible assumption) | (with_reducible exact at_new1 _ _) | (with_reducible exact at_new2 _ _ _) | (with_reducible exact at_newn _ _ (by simp only [World.size_setCell])) | (with_reducible refine set5_zero ?_ _ _ _ _ _) | (with_reducible refine set5_other ?_ ?_ _ _ _ _ _) | (with_reducible refine old_new ?_ _) | (with_reducible refine at_drew ?_) | (with_reducible refine old_in ?_ z2) | (with_reducible refine old_in ?_ z1) | (show (_ : Nat) ≠ _; omega))
        · repeat' (first | (with_reducible assumption) | (with_reducible exact at_new1 _ _) | (with_reducible exact at_new2 _ _ _) | (with_reducible exact at_newn _ _ (by simp only [World.size_setCell])) | (with_reducible refine set5_zero ?_ _ _ _ _ _) | (with_reducible refine set5_other ?_ ?_ _ _ _ _ _) | (with_reducible refine old_new ?_ _) | (with_reducible refine at_drew ?_) | (with_reducible refine old_in ?_ z2) | (with_reducible refine old_in ?_ z1) | (show (_ : Nat) ≠ _; omega))
        · repeat' (first | (with_reducible assumption) | (with_reducible exact at_new1 _ _) | (with_reducible exact at_new2 _ _ _) | (with_reducible exact at_newn _ _ (by simp only [World.size_setCell])) | (with_reducible refine set5_zero ?_ _ _ _ _ _) | (with_reducible refine set5_other ?_ ?_ _ _ _ _ _) | (with_reducible refine old_new ?_ _) | (with_reducible refine at_drew ?_) | (with_reducible refine old_in ?_ z2) | (with_reducible refine old_in ?_ z1) | (show (_ : Nat) ≠ _; omega))
        · repeat' (first | (with_reducible assumption) | (with_reducible exact at_new1 _ _) | (with_reducible exact at_new2 _ _ _) | (with_reducible exact at_newn _ _ (by simp only [World.size_setCell])) | (with_reducible refine set5_zero ?_ _ _ _ _ _) | (with_reducible refine set5_other ?_ ?_ _ _ _ _ _) | (with_reducible refine old_new ?_ _) | (with_reducible refine at_drew ?_) | (with_reducible refine old_in ?_ z2) | (with_reducible refine old_in ?_ z1) | (show (_ : Nat) ≠ _; omega))
        · repeat' (first | (with_reducible assumption) | (with_reducible exact (Below.refl _ _).drew) | (with_reducible exact Below.refl _ _) | (with_reducible refine below_set ?_ ?_ _) | (with_reducible refine Below.alloc ?_ ?_ _) | (with_reducible refine Below.drew ?_) | (with_reducible refine below_call ?_ z1) | (with_reducible refine below_call ?_ z2) | (with_reducible exact Nat.le_refl _) | omega | (rw [World.size_drew]) | (rw [World.size_alloc]) | (rw [World.size_setCell]))
        · omega
        · omega
        · omega
  case rest =>
    obtain ⟨T, V, rfl, rfl, hP⟩ := hcut
    clear HV HT
    have hB := Lib.hid hP.out.box
    have hR := Lib.hid hP.out.res
    have hG := Lib.hid hP.out.below
    have hT := Lib.hid hP.out.t
    have hV := Lib.hid hP.out.v
    have i1 := hP.out.hT
    have i2 := hP.out.hV
    have ne0 := hP.out.ne
    have ne1 := Ne.symm ne0
    have ne2 : w.heap.size ≠ T := by omega
    have ne3 : w.heap.size ≠ V := by omega
    have ne4 : w.heap.size + 1 ≠ T := by omega
    have ne5 : w.heap.size + 1 ≠ V := by omega
    have ne6 := Ne.symm ne2
    have ne7 := Ne.symm ne3
    have ne8 : w.heap.size + 1 ≠ w.heap.size := by omega
    clear hP
    have kB := cells_of hB.out
    have kT := cells_of hT.out
    have kV := cells_of hV.out
    have zB := frozen_of hB.out
    have zT := frozen_of hT.out
    have zV := frozen_of hV.out
    obtain ⟨r1, r2, r3, r4⟩ := Hres.out
    have hhv := Hhv.out
    have hht := Hht.out
    clear Hres Hhv Hht
    have ha0 := s.ha.1
    have ha1 := s.ha.2
    have hb0 := s.hb.1
    have hb1 := s.hb.2
    have hh0 := s.hh.1
    have hh1 := s.hh.2
    have hk0 := s.hk.1
    have hk1 := s.hk.2
    have hf0 := s.hf.1
    have hf1 := s.hf.2
    have wr1 : wrap64 (1 - h) = 1 - h := IntWalk.wrap64_in _ (by omega)
    have wr2 : wrap64 (1 - k) = 1 - k := IntWalk.wrap64_in _ (by omega)
    have wr3 : wrap64 (a + 1) = a + 1 := IntWalk.wrap64_in _ (by omega)
    have wr4 : wrap64 (b + 1) = b + 1 := IntWalk.wrap64_in _ (by omega)
    have wr5 : wrap64 (f + 1) = f + 1 := IntWalk.wrap64_in _ (by omega)
    have e : m = 0 ∨ m = 1 ∨ m = 2 ∨ m = 3 ∨ m = 4 ∨ m = 5 ∨ m = 6 ∨ m = 7 ∨ m = 8 ∨ m = 9 := by omega
    clear hm
    rcases e with rfl | rfl | rfl | rfl | rfl | rfl | rfl | rfl | rfl | rfl
    · have hM := HM.out
      obtain rfl : M = 0 := hM
      clear HM
      have r1' : v = v2 := r1
      have r2' : pt a' b' (n % 2) (n / 2 % 2) f' = t2 := by rw [← r2]; show _ = ct t n; rw [← hht, ct_pt s' n n0]
      have r3' : x = x2 := r3
      have r4' : g = g2 := r4
      clear r1 r2 r3 r4 hhv hht
      subst r1' r2' r3' r4'
      go_wp2_with fail
      refine (whole_any a' b' (n % 2) (n / 2 % 2) f' _ ⟨s'.ha, s'.hb, by omega, by omega, s'.hf⟩).mono ?_
      rintro e w2 ⟨rfl, z⟩
      have hR2 : w2.heap[w.heap.size + 1]? = some (.cells #[.int .u16 0, .int .u16 0, .int .u8 0, .bool false] 24 (0, 0)) := old_in (by (repeat (first | rw [heap_setCell_other _ _ _ _ ne2] | rw [heap_setCell_other _ _ _ _ ne3] | rw [heap_setCell_other _ _ _ _ ne4] | rw [heap_setCell_other _ _ _ _ ne5] | rw [heap_setCell_other _ _ _ _ ne8])); exact hR.out) z
      have hB2 : w2.heap[w.heap.size]? = some (.cells #[.int .u16 v, .int .u16 t, .int .u8 x, .bool g] 24 (0, 0)) := old_in (by (repeat (first | rw [heap_setCell_other _ _ _ _ ne2] | rw [heap_setCell_other _ _ _ _ ne3] | rw [heap_setCell_other _ _ _ _ ne4] | rw [heap_setCell_other _ _ _ _ ne5] | rw [heap_setCell_other _ _ _ _ ne8])); exact hB.out) z
      have hG2 : Below w.heap.size w w2 := below_call (by (repeat (first | (with_reducible exact hG.out) | (with_reducible refine below_set ?_ (by omega) _)))) z
      have HR2 := Lib.hid hR2
      have HB2 := Lib.hid hB2
      have HG2 := Lib.hid hG2
      clear hR2 hB2 hG2 z kB kT kV zB zT zV
      have kB2 := cells_of HB2.out
      have zB2 := frozen_of HB2.out
      go_wp2_with (refine wpList_store_row rfl 24 (.tmp 6) (.tmp 170) rfl (w.heap.size + 1) _ rfl rfl 24 #[.int .u16 0, .int .u16 0, .int .u8 0, .bool false] (by (repeat (rw [heap_setCell_other _ _ _ _ ne8])); exact HR2.out) (by kernel_rfl) rfl (one4 _ _ _ _) ?_)
      exact bodyPost_ret (results_cell_row (p := 6) (ty := 24) rfl _ _ (w.heap.size + 1) 24 _ (0, 0) _ rfl (setRow_heap _ _ #[.int .u16 0, .int .u16 0, .int .u8 0, .bool false] _ _ _ (by (repeat (rw [heap_setCell_other _ _ _ _ ne8])); exact HR2.out)) Try.underlying24 rfl (by kernel_rfl)) rfl ⟨rfl, Below.setRow (by (repeat (first | (with_reducible exact HG2.out) | (with_reducible refine below_set ?_ (Nat.le_refl _) _)))) (Nat.le_succ _) _⟩
    · have hM := HM.out
      obtain rfl : M = 1 := hM
      clear HM
      cases g
      · have r1' : v = v2 := r1
        have r2' : pt (n / 8) b' h' k' f' = t2 := by rw [← r2]; show _ = wl t n; rw [← hht, wl_pt s' n n0 n1]
        have r3' : (n % 8) = x2 := r3
        have r4' : true = g2 := r4
        clear r1 r2 r3 r4 hhv hht
        subst r1' r2' r3' r4'
        go_wp2_with fail
        refine (whole_any (n / 8) b' h' k' f' _ ⟨by omega, s'.hb, s'.hh, s'.hk, s'.hf⟩).mono ?_
        rintro e w2 ⟨rfl, z⟩
        have hR2 : w2.heap[w.heap.size + 1]? = some (.cells #[.int .u16 0, .int .u16 0, .int .u8 0, .bool false] 24 (0, 0)) := old_in (by (repeat (first | rw [heap_setCell_other _ _ _ _ ne2] | rw [heap_setCell_other _ _ _ _ ne3] | rw [heap_setCell_other _ _ _ _ ne4] | rw [heap_setCell_other _ _ _ _ ne5] | rw [heap_setCell_other _ _ _ _ ne8])); exact hR.out) z
        have hB2 : w2.heap[w.heap.size]? = some (.cells #[.int .u16 v, .int .u16 t, .int .u8 (n % 8), .bool false] 24 (0, 0)) := old_in (show _ = some (Obj.cells #[.int .u16 v, .int .u16 t, .int .u8 (n % 8), .bool false] 24 (0, 0)) from heap_setCell_same (wc.setCell ⟨T, 0, none⟩ (.int .i64 (n / 8))) w.heap.size 2 _ 24 (.int .u8 (n % 8)) (by (repeat (first | rw [heap_setCell_other _ _ _ _ ne2] | rw [heap_setCell_other _ _ _ _ ne3] | rw [heap_setCell_other _ _ _ _ ne4] | rw [heap_setCell_other _ _ _ _ ne5] | rw [heap_setCell_other _ _ _ _ ne8])); exact hB.out)) z
        have hG2 : Below w.heap.size w w2 := below_call (by (repeat (first | (with_reducible exact hG.out) | (with_reducible refine below_set ?_ (by omega) _)))) z
        have HR2 := Lib.hid hR2
        have HB2 := Lib.hid hB2
        have HG2 := Lib.hid hG2
        clear hR2 hB2 hG2 z kB kT kV zB zT zV
        have kB2 := cells_of HB2.out
        have zB2 := frozen_of HB2.out
        go_wp2_with (refine wpList_store_row rfl 24 (.tmp 6) (.tmp 170) rfl (w.heap.size + 1) _ rfl rfl 24 #[.int .u16 0, .int .u16 0, .int .u8 0, .bool false] (by (repeat (rw [heap_setCell_other _ _ _ _ ne8])); exact HR2.out) (by kernel_rfl) rfl (one4 _ _ _ _) ?_)
        exact bodyPost_ret (results_cell_row (p := 6) (ty := 24) rfl _ _ (w.heap.size + 1) 24 _ (0, 0) _ rfl (setRow_heap _ _ #[.int .u16 0, .int .u16 0, .int .u8 0, .bool false] _ _ _ (by (repeat (rw [heap_setCell_other _ _ _ _ ne8])); exact HR2.out)) Try.underlying24 rfl (by kernel_rfl)) rfl ⟨rfl, Below.setRow (by (repeat (first | (with_reducible exact HG2.out) | (with_reducible refine below_set ?_ (Nat.le_refl _) _)))) (Nat.le_succ _) _⟩
      · have r1' : v = v2 := r1
        have r2' : pt a' (n / 8) h' k' (n % 8) = t2 := by rw [← r2]; show _ = wh t n; rw [← hht, wh_pt s' n n0 n1]
        have r3' : x = x2 := r3
        have r4' : false = g2 := r4
        clear r1 r2 r3 r4 hhv hht
        subst r1' r2' r3' r4'
        go_wp2_with fail
        refine (whole_any a' (n / 8) h' k' (n % 8) _ ⟨s'.ha, by omega, s'.hh, s'.hk, by omega⟩).mono ?_
        rintro e w2 ⟨rfl, z⟩
        have hR2 : w2.heap[w.heap.size + 1]? = some (.cells #[.int .u16 0, .int .u16 0, .int .u8 0, .bool false] 24 (0, 0)) := old_in (by (repeat (first | rw [heap_setCell_other _ _ _ _ ne2] | rw [heap_setCell_other _ _ _ _ ne3] | rw [heap_setCell_other _ _ _ _ ne4] | rw [heap_setCell_other _ _ _ _ ne5] | rw [heap_setCell_other _ _ _ _ ne8])); exact hR.out) z
        have hB2 : w2.heap[w.heap.size]? = some (.cells #[.int .u16 v, .int .u16 t, .int .u8 x, .bool true] 24 (0, 0)) := old_in (by (repeat (first | rw [heap_setCell_other _ _ _ _ ne2] | rw [heap_setCell_other _ _ _ _ ne3] | rw [heap_setCell_other _ _ _ _ ne4] | rw [heap_setCell_other _ _ _ _ ne5] | rw [heap_setCell_other _ _ _ _ ne8])); exact hB.out) z
        have hG2 : Below w.heap.size w w2 := below_call (by (repeat (first | (with_reducible exact hG.out) | (with_reducible refine below_set ?_ (by omega) _)))) z
        have HR2 := Lib.hid hR2
        have HB2 := Lib.hid hB2
        have HG2 := Lib.hid hG2
        clear hR2 hB2 hG2 z kB kT kV zB zT zV
        have kB2 := cells_of HB2.out
        have zB2 := frozen_of HB2.out
        go_wp2_with (refine wpList_store_row rfl 24 (.tmp 6) (.tmp 170) rfl (w.heap.size + 1) _ rfl rfl 24 #[.int .u16 0, .int .u16 0, .int .u8 0, .bool false] (by (repeat (rw [heap_setCell_other _ _ _ _ ne8])); exact HR2.out) (by kernel_rfl) rfl (one4 _ _ _ _) ?_)
        exact bodyPost_ret (results_cell_row (p := 6) (ty := 24) rfl _ _ (w.heap.size + 1) 24 _ (0, 0) _ rfl (setRow_heap _ _ #[.int .u16 0, .int .u16 0, .int .u8 0, .bool false] _ _ _ (by (repeat (rw [heap_setCell_other _ _ _ _ ne8])); exact HR2.out)) Try.underlying24 rfl (by kernel_rfl)) rfl ⟨rfl, Below.setRow (by (repeat (first | (with_reducible exact HG2.out) | (with_reducible refine below_set ?_ (Nat.le_refl _) _)))) (Nat.le_succ _) _⟩
    · have hM := HM.out
      obtain rfl : M = 2 := hM
      clear HM
      cases g
      · have r1' : v = v2 := r1
        have r2' : (t % 256 + n % 64 * 256) = t2 := by rw [← r2]; show _ = al t n; unfold al; omega
        have r3' : x = x2 := r3
        have r4' : true = g2 := r4
        clear r1 r2 r3 r4 hhv hht
        subst r1' r2' r3' r4'
        go_wp2_with (refine wpList_store_row rfl 24 (.tmp 6) (.tmp 170) rfl (w.heap.size + 1) _ rfl rfl 24 #[.int .u16 0, .int .u16 0, .int .u8 0, .bool false] (by (repeat (first | rw [heap_setCell_other _ _ _ _ ne2] | rw [heap_setCell_other _ _ _ _ ne3] | rw [heap_setCell_other _ _ _ _ ne4] | rw [heap_setCell_other _ _ _ _ ne5] | rw [heap_setCell_other _ _ _ _ ne8])); exact hR.out) (by kernel_rfl) rfl (one4 _ _ _ _) ?_)
        exact bodyPost_ret (results_cell_row (p := 6) (ty := 24) rfl _ _ (w.heap.size + 1) 24 _ (0, 0) _ rfl (setRow_heap _ _ #[.int .u16 0, .int .u16 0, .int .u8 0, .bool false] _ _ _ (by (repeat (first | rw [heap_setCell_other _ _ _ _ ne2] | rw [heap_setCell_other _ _ _ _ ne3] | rw [heap_setCell_other _ _ _ _ ne4] | rw [heap_setCell_other _ _ _ _ ne5] | rw [heap_setCell_other _ _ _ _ ne8])); exact hR.out)) Try.underlying24 rfl (by kernel_rfl)) rfl ⟨rfl, Below.setRow (by (repeat (first | (with_reducible exact hG.out) | (with_reducible refine below_set ?_ (by omega) _)))) (Nat.le_succ _) _⟩
      · have r1' : (t / 256 * 256 + n) = v2 := by rw [← r1]; show _ = ah t n; unfold ah; omega
        have r2' : (t / 256 * 256 + n) = t2 := by rw [← r2]; show _ = ah t n; unfold ah; omega
        have r3' : x = x2 := r3
        have r4' : false = g2 := r4
        clear r1 r2 r3 r4 hhv hht
        subst r1' r2' r3' r4'
        go_wp2_with (refine wpList_store_row rfl 24 (.tmp 6) (.tmp 170) rfl (w.heap.size + 1) _ rfl rfl 24 #[.int .u16 0, .int .u16 0, .int .u8 0, .bool false] (by (repeat (first | rw [heap_setCell_other _ _ _ _ ne2] | rw [heap_setCell_other _ _ _ _ ne3] | rw [heap_setCell_other _ _ _ _ ne4] | rw [heap_setCell_other _ _ _ _ ne5] | rw [heap_setCell_other _ _ _ _ ne8])); exact hR.out) (by kernel_rfl) rfl (one4 _ _ _ _) ?_)
        exact bodyPost_ret (results_cell_row (p := 6) (ty := 24) rfl _ _ (w.heap.size + 1) 24 _ (0, 0) _ rfl (setRow_heap _ _ #[.int .u16 0, .int .u16 0, .int .u8 0, .bool false] _ _ _ (by (repeat (first | rw [heap_setCell_other _ _ _ _ ne2] | rw [heap_setCell_other _ _ _ _ ne3] | rw [heap_setCell_other _ _ _ _ ne4] | rw [heap_setCell_other _ _ _ _ ne5] | rw [heap_setCell_other _ _ _ _ ne8])); exact hR.out)) Try.underlying24 rfl (by kernel_rfl)) rfl ⟨rfl, Below.setRow (by (repeat (first | (with_reducible exact hG.out) | (with_reducible refine below_set ?_ (by omega) _)))) (Nat.le_succ _) _⟩
    · have hM := HM.out
      obtain rfl : M = 3 := hM
      clear HM
      have r1' : v = v2 := r1
      have r2' : t = t2 := r2
      have r3' : x = x2 := r3
      have r4' : false = g2 := r4
      clear r1 r2 r3 r4 hhv hht
      subst r1' r2' r3' r4'
      go_wp2_with (refine wpList_store_row rfl 24 (.tmp 6) (.tmp 170) rfl (w.heap.size + 1) _ rfl rfl 24 #[.int .u16 0, .int .u16 0, .int .u8 0, .bool false] (by (repeat (first | rw [heap_setCell_other _ _ _ _ ne2] | rw [heap_setCell_other _ _ _ _ ne3] | rw [heap_setCell_other _ _ _ _ ne4] | rw [heap_setCell_other _ _ _ _ ne5] | rw [heap_setCell_other _ _ _ _ ne8])); exact hR.out) (by kernel_rfl) rfl (one4 _ _ _ _) ?_)
      exact bodyPost_ret (results_cell_row (p := 6) (ty := 24) rfl _ _ (w.heap.size + 1) 24 _ (0, 0) _ rfl (setRow_heap _ _ #[.int .u16 0, .int .u16 0, .int .u8 0, .bool false] _ _ _ (by (repeat (first | rw [heap_setCell_other _ _ _ _ ne2] | rw [heap_setCell_other _ _ _ _ ne3] | rw [heap_setCell_other _ _ _ _ ne4] | rw [heap_setCell_other _ _ _ _ ne5] | rw [heap_setCell_other _ _ _ _ ne8])); exact hR.out)) Try.underlying24 rfl (by kernel_rfl)) rfl ⟨rfl, Below.setRow (by (repeat (first | (with_reducible exact hG.out) | (with_reducible refine below_set ?_ (by omega) _)))) (Nat.le_succ _) _⟩
    · have hM := HM.out
      obtain rfl : M = 4 := hM
      clear HM
      have r1' : ((v + 1) % 32768) = v2 := r1
      have r2' : t = t2 := r2
      have r3' : x = x2 := r3
      have r4' : g = g2 := r4
      clear r1 r2 r3 r4 hhv hht
      subst r1' r2' r3' r4'
      go_wp2_with (refine wpList_store_row rfl 24 (.tmp 6) (.tmp 170) rfl (w.heap.size + 1) _ rfl rfl 24 #[.int .u16 0, .int .u16 0, .int .u8 0, .bool false] (by (repeat (first | rw [heap_setCell_other _ _ _ _ ne2] | rw [heap_setCell_other _ _ _ _ ne3] | rw [heap_setCell_other _ _ _ _ ne4] | rw [heap_setCell_other _ _ _ _ ne5] | rw [heap_setCell_other _ _ _ _ ne8])); exact hR.out) (by kernel_rfl) rfl (one4 _ _ _ _) ?_)
      exact bodyPost_ret (results_cell_row (p := 6) (ty := 24) rfl _ _ (w.heap.size + 1) 24 _ (0, 0) _ rfl (setRow_heap _ _ #[.int .u16 0, .int .u16 0, .int .u8 0, .bool false] _ _ _ (by (repeat (first | rw [heap_setCell_other _ _ _ _ ne2] | rw [heap_setCell_other _ _ _ _ ne3] | rw [heap_setCell_other _ _ _ _ ne4] | rw [heap_setCell_other _ _ _ _ ne5] | rw [heap_setCell_other _ _ _ _ ne8])); exact hR.out)) Try.underlying24 rfl (by kernel_rfl)) rfl ⟨rfl, Below.setRow (by (repeat (first | (with_reducible exact hG.out) | (with_reducible refine below_set ?_ (by omega) _)))) (Nat.le_succ _) _⟩
    · have hM := HM.out
      obtain rfl : M = 5 := hM
      clear HM
      have r1' : ((v + 32) % 32768) = v2 := r1
      have r2' : t = t2 := r2
      have r3' : x = x2 := r3
      have r4' : g = g2 := r4
      clear r1 r2 r3 r4 hhv hht
      subst r1' r2' r3' r4'
      go_wp2_with (refine wpList_store_row rfl 24 (.tmp 6) (.tmp 170) rfl (w.heap.size + 1) _ rfl rfl 24 #[.int .u16 0, .int .u16 0, .int .u8 0, .bool false] (by (repeat (first | rw [heap_setCell_other _ _ _ _ ne2] | rw [heap_setCell_other _ _ _ _ ne3] | rw [heap_setCell_other _ _ _ _ ne4] | rw [heap_setCell_other _ _ _ _ ne5] | rw [heap_setCell_other _ _ _ _ ne8])); exact hR.out) (by kernel_rfl) rfl (one4 _ _ _ _) ?_)
      exact bodyPost_ret (results_cell_row (p := 6) (ty := 24) rfl _ _ (w.heap.size + 1) 24 _ (0, 0) _ rfl (setRow_heap _ _ #[.int .u16 0, .int .u16 0, .int .u8 0, .bool false] _ _ _ (by (repeat (first | rw [heap_setCell_other _ _ _ _ ne2] | rw [heap_setCell_other _ _ _ _ ne3] | rw [heap_setCell_other _ _ _ _ ne4] | rw [heap_setCell_other _ _ _ _ ne5] | rw [heap_setCell_other _ _ _ _ ne8])); exact hR.out)) Try.underlying24 rfl (by kernel_rfl)) rfl ⟨rfl, Below.setRow (by (repeat (first | (with_reducible exact hG.out) | (with_reducible refine below_set ?_ (by omega) _)))) (Nat.le_succ _) _⟩
    · have hM := HM.out
      obtain rfl : M = 6 := hM
      clear HM
      by_cases c1 : a = 31
      · have q1 : (a + 1 == 32) = true := by simp; omega
        have r1' : pt 0 b (1 - h) k f = v2 := by rw [← r1]; show _ = rt v; rw [← hhv, rt_pt s, if_pos c1]
        have r2' : t = t2 := r2
        have r3' : x = x2 := r3
        have r4' : g = g2 := r4
        clear r1 r2 r3 r4 hhv hht
        subst r1' r2' r3' r4'
        go_wp2_with fail
        refine (whole_any 0 b (1 - h) k f _ ⟨by omega, s.hb, by have := s.hh; omega, s.hk, s.hf⟩).mono ?_
        rintro e w2 ⟨rfl, z⟩
        have hR2 : w2.heap[w.heap.size + 1]? = some (.cells #[.int .u16 0, .int .u16 0, .int .u8 0, .bool false] 24 (0, 0)) := old_in (by (repeat (first | rw [heap_setCell_other _ _ _ _ ne2] | rw [heap_setCell_other _ _ _ _ ne3] | rw [heap_setCell_other _ _ _ _ ne4] | rw [heap_setCell_other _ _ _ _ ne5] | rw [heap_setCell_other _ _ _ _ ne8])); exact hR.out) z
        have hB2 : w2.heap[w.heap.size]? = some (.cells #[.int .u16 v, .int .u16 t, .int .u8 x, .bool g] 24 (0, 0)) := old_in (by (repeat (first | rw [heap_setCell_other _ _ _ _ ne2] | rw [heap_setCell_other _ _ _ _ ne3] | rw [heap_setCell_other _ _ _ _ ne4] | rw [heap_setCell_other _ _ _ _ ne5] | rw [heap_setCell_other _ _ _ _ ne8])); exact hB.out) z
        have hG2 : Below w.heap.size w w2 := below_call (by (repeat (first | (with_reducible exact hG.out) | (with_reducible refine below_set ?_ (by omega) _)))) z
        have HR2 := Lib.hid hR2
        have HB2 := Lib.hid hB2
        have HG2 := Lib.hid hG2
        clear hR2 hB2 hG2 z kB kT kV zB zT zV
        have kB2 := cells_of HB2.out
        have zB2 := frozen_of HB2.out
        go_wp2_with (refine wpList_store_row rfl 24 (.tmp 6) (.tmp 170) rfl (w.heap.size + 1) _ rfl rfl 24 #[.int .u16 0, .int .u16 0, .int .u8 0, .bool false] (by (repeat (rw [heap_setCell_other _ _ _ _ ne8])); exact HR2.out) (by kernel_rfl) rfl (one4 _ _ _ _) ?_)
        exact bodyPost_ret (results_cell_row (p := 6) (ty := 24) rfl _ _ (w.heap.size + 1) 24 _ (0, 0) _ rfl (setRow_heap _ _ #[.int .u16 0, .int .u16 0, .int .u8 0, .bool false] _ _ _ (by (repeat (rw [heap_setCell_other _ _ _ _ ne8])); exact HR2.out)) Try.underlying24 rfl (by kernel_rfl)) rfl ⟨rfl, Below.setRow (by (repeat (first | (with_reducible exact HG2.out) | (with_reducible refine below_set ?_ (Nat.le_refl _) _)))) (Nat.le_succ _) _⟩
      · have q1 : (a + 1 == 32) = false := by simp; omega
        have r1' : pt (a + 1) b h k f = v2 := by rw [← r1]; show _ = rt v; rw [← hhv, rt_pt s, if_neg c1]
        have r2' : t = t2 := r2
        have r3' : x = x2 := r3
        have r4' : g = g2 := r4
        clear r1 r2 r3 r4 hhv hht
        subst r1' r2' r3' r4'
        go_wp2_with fail
        refine (whole_any (a + 1) b h k f _ ⟨by have := s.ha; omega, s.hb, s.hh, s.hk, s.hf⟩).mono ?_
        rintro e w2 ⟨rfl, z⟩
        have hR2 : w2.heap[w.heap.size + 1]? = some (.cells #[.int .u16 0, .int .u16 0, .int .u8 0, .bool false] 24 (0, 0)) := old_in (by (repeat (first | rw [heap_setCell_other _ _ _ _ ne2] | rw [heap_setCell_other _ _ _ _ ne3] | rw [heap_setCell_other _ _ _ _ ne4] | rw [heap_setCell_other _ _ _ _ ne5] | rw [heap_setCell_other _ _ _ _ ne8])); exact hR.out) z
        have hB2 : w2.heap[w.heap.size]? = some (.cells #[.int .u16 v, .int .u16 t, .int .u8 x, .bool g] 24 (0, 0)) := old_in (by (repeat (first | rw [heap_setCell_other _ _ _ _ ne2] | rw [heap_setCell_other _ _ _ _ ne3] | rw [heap_setCell_other _ _ _ _ ne4] | rw [heap_setCell_other _ _ _ _ ne5] | rw [heap_setCell_other _ _ _ _ ne8])); exact hB.out) z
        have hG2 : Below w.heap.size w w2 := below_call (by (repeat (first | (with_reducible exact hG.out) | (with_reducible refine below_set ?_ (by omega) _)))) z
        have HR2 := Lib.hid hR2
        have HB2 := Lib.hid hB2
        have HG2 := Lib.hid hG2
        clear hR2 hB2 hG2 z kB kT kV zB zT zV
        have kB2 := cells_of HB2.out
        have zB2 := frozen_of HB2.out
        go_wp2_with (refine wpList_store_row rfl 24 (.tmp 6) (.tmp 170) rfl (w.heap.size + 1) _ rfl rfl 24 #[.int .u16 0, .int .u16 0, .int .u8 0, .bool false] (by (repeat (rw [heap_setCell_other _ _ _ _ ne8])); exact HR2.out) (by kernel_rfl) rfl (one4 _ _ _ _) ?_)
        exact bodyPost_ret (results_cell_row (p := 6) (ty := 24) rfl _ _ (w.heap.size + 1) 24 _ (0, 0) _ rfl (setRow_heap _ _ #[.int .u16 0, .int .u16 0, .int .u8 0, .bool false] _ _ _ (by (repeat (rw [heap_setCell_other _ _ _ _ ne8])); exact HR2.out)) Try.underlying24 rfl (by kernel_rfl)) rfl ⟨rfl, Below.setRow (by (repeat (first | (with_reducible exact HG2.out) | (with_reducible refine below_set ?_ (Nat.le_refl _) _)))) (Nat.le_succ _) _⟩
    · have hM := HM.out
      obtain rfl : M = 7 := hM
      clear HM
      by_cases c1 : f < 7
      · have q1 : (f + 1 == 8) = false := by simp; omega
        have r1' : pt a b h k (f + 1) = v2 := by rw [← r1]; show _ = dn v; rw [← hhv, dn_pt s, if_pos c1]
        have r2' : t = t2 := r2
        have r3' : x = x2 := r3
        have r4' : g = g2 := r4
        clear r1 r2 r3 r4 hhv hht
        subst r1' r2' r3' r4'
        go_wp2_with fail
        refine (whole_any a b h k (f + 1) _ ⟨s.ha, s.hb, s.hh, s.hk, by omega⟩).mono ?_
        rintro e w2 ⟨rfl, z⟩
        have hR2 : w2.heap[w.heap.size + 1]? = some (.cells #[.int .u16 0, .int .u16 0, .int .u8 0, .bool false] 24 (0, 0)) := old_in (by (repeat (first | rw [heap_setCell_other _ _ _ _ ne2] | rw [heap_setCell_other _ _ _ _ ne3] | rw [heap_setCell_other _ _ _ _ ne4] | rw [heap_setCell_other _ _ _ _ ne5] | rw [heap_setCell_other _ _ _ _ ne8])); exact hR.out) z
        have hB2 : w2.heap[w.heap.size]? = some (.cells #[.int .u16 v, .int .u16 t, .int .u8 x, .bool g] 24 (0, 0)) := old_in (by (repeat (first | rw [heap_setCell_other _ _ _ _ ne2] | rw [heap_setCell_other _ _ _ _ ne3] | rw [heap_setCell_other _ _ _ _ ne4] | rw [heap_setCell_other _ _ _ _ ne5] | rw [heap_setCell_other _ _ _ _ ne8])); exact hB.out) z
        have hG2 : Below w.heap.size w w2 := below_call (by (repeat (first | (with_reducible exact hG.out) | (with_reducible refine below_set ?_ (by omega) _)))) z
        have HR2 := Lib.hid hR2
        have HB2 := Lib.hid hB2
        have HG2 := Lib.hid hG2
        clear hR2 hB2 hG2 z kB kT kV zB zT zV
        have kB2 := cells_of HB2.out
        have zB2 := frozen_of HB2.out
        go_wp2_with (refine wpList_store_row rfl 24 (.tmp 6) (.tmp 170) rfl (w.heap.size + 1) _ rfl rfl 24 #[.int .u16 0, .int .u16 0, .int .u8 0, .bool false] (by (repeat (rw [heap_setCell_other _ _ _ _ ne8])); exact HR2.out) (by kernel_rfl) rfl (one4 _ _ _ _) ?_)
        exact bodyPost_ret (results_cell_row (p := 6) (ty := 24) rfl _ _ (w.heap.size + 1) 24 _ (0, 0) _ rfl (setRow_heap _ _ #[.int .u16 0, .int .u16 0, .int .u8 0, .bool false] _ _ _ (by (repeat (rw [heap_setCell_other _ _ _ _ ne8])); exact HR2.out)) Try.underlying24 rfl (by kernel_rfl)) rfl ⟨rfl, Below.setRow (by (repeat (first | (with_reducible exact HG2.out) | (with_reducible refine below_set ?_ (Nat.le_refl _) _)))) (Nat.le_succ _) _⟩
      · have c1' : f = 7 := by omega
        have q1 : (f + 1 == 8) = true := by simp; omega
        by_cases c2 : b = 29
        · have q2 : (b + 1 == 30) = true := by simp; omega
          have r1' : pt a 0 h (1 - k) 0 = v2 := by rw [← r1]; show _ = dn v; rw [← hhv, dn_pt s, if_neg c1, if_pos c2]
          have r2' : t = t2 := r2
          have r3' : x = x2 := r3
          have r4' : g = g2 := r4
          clear r1 r2 r3 r4 hhv hht
          subst r1' r2' r3' r4'
          go_upto_if 132 with fail
          have nV : (((wc.setCell ⟨V, 4, none⟩ (.int .i64 8)).setCell ⟨V, 4, none⟩ (.int .i64 0)).setCell ⟨V, 1, none⟩ (.int .i64 30)).heap[V]? = some (.cells #[.int .i64 a, .int .i64 30, .int .i64 h, .int .i64 k, .int .i64 0] 41 (0, 0)) := heap_setCell_same _ V 1 _ 41 _ (heap_setCell_same _ V 4 _ 41 _ (heap_setCell_same _ V 4 _ 41 _ hV.out))
          have nB : (((wc.setCell ⟨V, 4, none⟩ (.int .i64 8)).setCell ⟨V, 4, none⟩ (.int .i64 0)).setCell ⟨V, 1, none⟩ (.int .i64 30)).heap[w.heap.size]? = some (.cells #[.int .u16 v, .int .u16 t, .int .u8 x, .bool g] 24 (0, 0)) := (by (repeat (rw [heap_setCell_other _ _ _ _ ne3])); exact hB.out)
          have nR : (((wc.setCell ⟨V, 4, none⟩ (.int .i64 8)).setCell ⟨V, 4, none⟩ (.int .i64 0)).setCell ⟨V, 1, none⟩ (.int .i64 30)).heap[w.heap.size + 1]? = some (.cells #[.int .u16 0, .int .u16 0, .int .u8 0, .bool false] 24 (0, 0)) := (by (repeat (rw [heap_setCell_other _ _ _ _ ne5])); exact hR.out)
          have nG : Below w.heap.size w (((wc.setCell ⟨V, 4, none⟩ (.int .i64 8)).setCell ⟨V, 4, none⟩ (.int .i64 0)).setCell ⟨V, 1, none⟩ (.int .i64 30)) := (by (repeat (first | (with_reducible exact hG.out) | (with_reducible refine below_set ?_ (by omega) _))))
          clear kB kT kV zB zT zV hB hR hG hV hT
          generalize (((wc.setCell ⟨V, 4, none⟩ (.int .i64 8)).setCell ⟨V, 4, none⟩ (.int .i64 0)).setCell ⟨V, 1, none⟩ (.int .i64 30)) = wY at nV nB nR nG ⊢
          have hB := Lib.hid nB
          have hR := Lib.hid nR
          have hG := Lib.hid nG
          have hV := Lib.hid nV
          clear nV nB nR nG
          have kB := cells_of hB.out
          have kV := cells_of hV.out
          have zB := frozen_of hB.out
          have zV := frozen_of hV.out
          have kT := 0
          have zT := 0
          go_wp2_with fail
          refine (whole_any a 0 h (1 - k) 0 _ ⟨s.ha, by omega, s.hh, by omega, by omega⟩).mono ?_
          rintro e w2 ⟨rfl, z⟩
          have hR2 : w2.heap[w.heap.size + 1]? = some (.cells #[.int .u16 0, .int .u16 0, .int .u8 0, .bool false] 24 (0, 0)) := old_in (by (repeat (first | rw [heap_setCell_other _ _ _ _ ne2] | rw [heap_setCell_other _ _ _ _ ne3] | rw [heap_setCell_other _ _ _ _ ne4] | rw [heap_setCell_other _ _ _ _ ne5] | rw [heap_setCell_other _ _ _ _ ne8])); exact hR.out) z
          have hB2 : w2.heap[w.heap.size]? = some (.cells #[.int .u16 v, .int .u16 t, .int .u8 x, .bool g] 24 (0, 0)) := old_in (by (repeat (first | rw [heap_setCell_other _ _ _ _ ne2] | rw [heap_setCell_other _ _ _ _ ne3] | rw [heap_setCell_other _ _ _ _ ne4] | rw [heap_setCell_other _ _ _ _ ne5] | rw [heap_setCell_other _ _ _ _ ne8])); exact hB.out) z
          have hG2 : Below w.heap.size w w2 := below_call (by (repeat (first | (with_reducible exact hG.out) | (with_reducible refine below_set ?_ (by omega) _)))) z
          have HR2 := Lib.hid hR2
          have HB2 := Lib.hid hB2
          have HG2 := Lib.hid hG2
          clear hR2 hB2 hG2 z kB kT kV zB zT zV
          have kB2 := cells_of HB2.out
          have zB2 := frozen_of HB2.out
          go_wp2_with (refine wpList_store_row rfl 24 (.tmp 6) (.tmp 170) rfl (w.heap.size + 1) _ rfl rfl 24 #[.int .u16 0, .int .u16 0, .int .u8 0, .bool false] (by (repeat (rw [heap_setCell_other _ _ _ _ ne8])); exact HR2.out) (by kernel_rfl) rfl (one4 _ _ _ _) ?_)
          exact bodyPost_ret (results_cell_row (p := 6) (ty := 24) rfl _ _ (w.heap.size + 1) 24 _ (0, 0) _ rfl (setRow_heap _ _ #[.int .u16 0, .int .u16 0, .int .u8 0, .bool false] _ _ _ (by (repeat (rw [heap_setCell_other _ _ _ _ ne8])); exact HR2.out)) Try.underlying24 rfl (by kernel_rfl)) rfl ⟨rfl, Below.setRow (by (repeat (first | (with_reducible exact HG2.out) | (with_reducible refine below_set ?_ (Nat.le_refl _) _)))) (Nat.le_succ _) _⟩
        · have q2 : (b + 1 == 30) = false := by simp; omega
          by_cases c3 : b = 31
          · have q3 : (b + 1 == 32) = true := by simp; omega
            have r1' : pt a 0 h k 0 = v2 := by rw [← r1]; show _ = dn v; rw [← hhv, dn_pt s, if_neg c1, if_neg c2, if_pos c3]
            have r2' : t = t2 := r2
            have r3' : x = x2 := r3
            have r4' : g = g2 := r4
            clear r1 r2 r3 r4 hhv hht
            subst r1' r2' r3' r4'
            go_upto_if 132 with fail
            have nV : (((wc.setCell ⟨V, 4, none⟩ (.int .i64 8)).setCell ⟨V, 4, none⟩ (.int .i64 0)).setCell ⟨V, 1, none⟩ (.int .i64 32)).heap[V]? = some (.cells #[.int .i64 a, .int .i64 32, .int .i64 h, .int .i64 k, .int .i64 0] 41 (0, 0)) := heap_setCell_same _ V 1 _ 41 _ (heap_setCell_same _ V 4 _ 41 _ (heap_setCell_same _ V 4 _ 41 _ hV.out))
            have nB : (((wc.setCell ⟨V, 4, none⟩ (.int .i64 8)).setCell ⟨V, 4, none⟩ (.int .i64 0)).setCell ⟨V, 1, none⟩ (.int .i64 32)).heap[w.heap.size]? = some (.cells #[.int .u16 v, .int .u16 t, .int .u8 x, .bool g] 24 (0, 0)) := (by (repeat (rw [heap_setCell_other _ _ _ _ ne3])); exact hB.out)
            have nR : (((wc.setCell ⟨V, 4, none⟩ (.int .i64 8)).setCell ⟨V, 4, none⟩ (.int .i64 0)).setCell ⟨V, 1, none⟩ (.int .i64 32)).heap[w.heap.size + 1]? = some (.cells #[.int .u16 0, .int .u16 0, .int .u8 0, .bool false] 24 (0, 0)) := (by (repeat (rw [heap_setCell_other _ _ _ _ ne5])); exact hR.out)
            have nG : Below w.heap.size w (((wc.setCell ⟨V, 4, none⟩ (.int .i64 8)).setCell ⟨V, 4, none⟩ (.int .i64 0)).setCell ⟨V, 1, none⟩ (.int .i64 32)) := (by (repeat (first | (with_reducible exact hG.out) | (with_reducible refine below_set ?_ (by omega) _))))
            clear kB kT kV zB zT zV hB hR hG hV hT
            generalize (((wc.setCell ⟨V, 4, none⟩ (.int .i64 8)).setCell ⟨V, 4, none⟩ (.int .i64 0)).setCell ⟨V, 1, none⟩ (.int .i64 32)) = wY at nV nB nR nG ⊢
            have hB := Lib.hid nB
            have hR := Lib.hid nR
            have hG := Lib.hid nG
            have hV := Lib.hid nV
            clear nV nB nR nG
            have kB := cells_of hB.out
            have kV := cells_of hV.out
            have zB := frozen_of hB.out
            have zV := frozen_of hV.out
            have kT := 0
            have zT := 0
            go_wp2_with fail
            refine (whole_any a 0 h k 0 _ ⟨s.ha, by omega, s.hh, s.hk, by omega⟩).mono ?_
            rintro e w2 ⟨rfl, z⟩
            have hR2 : w2.heap[w.heap.size + 1]? = some (.cells #[.int .u16 0, .int .u16 0, .int .u8 0, .bool false] 24 (0, 0)) := old_in (by (repeat (first | rw [heap_setCell_other _ _ _ _ ne2] | rw [heap_setCell_other _ _ _ _ ne3] | rw [heap_setCell_other _ _ _ _ ne4] | rw [heap_setCell_other _ _ _ _ ne5] | rw [heap_setCell_other _ _ _ _ ne8])); exact hR.out) z
            have hB2 : w2.heap[w.heap.size]? = some (.cells #[.int .u16 v, .int .u16 t, .int .u8 x, .bool g] 24 (0, 0)) := old_in (by (repeat (first | rw [heap_setCell_other _ _ _ _ ne2] | rw [heap_setCell_other _ _ _ _ ne3] | rw [heap_setCell_other _ _ _ _ ne4] | rw [heap_setCell_other _ _ _ _ ne5] | rw [heap_setCell_other _ _ _ _ ne8])); exact hB.out) z
            have hG2 : Below w.heap.size w w2 := below_call (by (repeat (first | (with_reducible exact hG.out) | (with_reducible refine below_set ?_ (by omega) _)))) z
            have HR2 := Lib.hid hR2
            have HB2 := Lib.hid hB2
            have HG2 := Lib.hid hG2
            clear hR2 hB2 hG2 z kB kT kV zB zT zV
            have kB2 := cells_of HB2.out
            have zB2 := frozen_of HB2.out
            go_wp2_with (refine wpList_store_row rfl 24 (.tmp 6) (.tmp 170) rfl (w.heap.size + 1) _ rfl rfl 24 #[.int .u16 0, .int .u16 0, .int .u8 0, .bool false] (by (repeat (rw [heap_setCell_other _ _ _ _ ne8])); exact HR2.out) (by kernel_rfl) rfl (one4 _ _ _ _) ?_)
            exact bodyPost_ret (results_cell_row (p := 6) (ty := 24) rfl _ _ (w.heap.size + 1) 24 _ (0, 0) _ rfl (setRow_heap _ _ #[.int .u16 0, .int .u16 0, .int .u8 0, .bool false] _ _ _ (by (repeat (rw [heap_setCell_other _ _ _ _ ne8])); exact HR2.out)) Try.underlying24 rfl (by kernel_rfl)) rfl ⟨rfl, Below.setRow (by (repeat (first | (with_reducible exact HG2.out) | (with_reducible refine below_set ?_ (Nat.le_refl _) _)))) (Nat.le_succ _) _⟩
          · have q3 : (b + 1 == 32) = false := by simp; omega
            have r1' : pt a (b + 1) h k 0 = v2 := by rw [← r1]; show _ = dn v; rw [← hhv, dn_pt s, if_neg c1, if_neg c2, if_neg c3]
            have r2' : t = t2 := r2
            have r3' : x = x2 := r3
            have r4' : g = g2 := r4
            clear r1 r2 r3 r4 hhv hht
            subst r1' r2' r3' r4'
            go_upto_if 132 with fail
            have nV : (((wc.setCell ⟨V, 4, none⟩ (.int .i64 8)).setCell ⟨V, 4, none⟩ (.int .i64 0)).setCell ⟨V, 1, none⟩ (.int .i64 (b + 1))).heap[V]? = some (.cells #[.int .i64 a, .int .i64 (b + 1), .int .i64 h, .int .i64 k, .int .i64 0] 41 (0, 0)) := heap_setCell_same _ V 1 _ 41 _ (heap_setCell_same _ V 4 _ 41 _ (heap_setCell_same _ V 4 _ 41 _ hV.out))
            have nB : (((wc.setCell ⟨V, 4, none⟩ (.int .i64 8)).setCell ⟨V, 4, none⟩ (.int .i64 0)).setCell ⟨V, 1, none⟩ (.int .i64 (b + 1))).heap[w.heap.size]? = some (.cells #[.int .u16 v, .int .u16 t, .int .u8 x, .bool g] 24 (0, 0)) := (by (repeat (rw [heap_setCell_other _ _ _ _ ne3])); exact hB.out)
            have nR : (((wc.setCell ⟨V, 4, none⟩ (.int .i64 8)).setCell ⟨V, 4, none⟩ (.int .i64 0)).setCell ⟨V, 1, none⟩ (.int .i64 (b + 1))).heap[w.heap.size + 1]? = some (.cells #[.int .u16 0, .int .u16 0, .int .u8 0, .bool false] 24 (0, 0)) := (by (repeat (rw [heap_setCell_other _ _ _ _ ne5])); exact hR.out)
            have nG : Below w.heap.size w (((wc.setCell ⟨V, 4, none⟩ (.int .i64 8)).setCell ⟨V, 4, none⟩ (.int .i64 0)).setCell ⟨V, 1, none⟩ (.int .i64 (b + 1))) := (by (repeat (first | (with_reducible exact hG.out) | (with_reducible refine below_set ?_ (by omega) _))))
            clear kB kT kV zB zT zV hB hR hG hV hT
            generalize (((wc.setCell ⟨V, 4, none⟩ (.int .i64 8)).setCell ⟨V, 4, none⟩ (.int .i64 0)).setCell ⟨V, 1, none⟩ (.int .i64 (b + 1))) = wY at nV nB nR nG ⊢
            have hB := Lib.hid nB
            have hR := Lib.hid nR
            have hG := Lib.hid nG
            have hV := Lib.hid nV
            clear nV nB nR nG
            have kB := cells_of hB.out
            have kV := cells_of hV.out
            have zB := frozen_of hB.out
            have zV := frozen_of hV.out
            have kT := 0
            have zT := 0
            go_wp2_with fail
            refine (whole_any a (b + 1) h k 0 _ ⟨s.ha, by omega, s.hh, s.hk, by omega⟩).mono ?_
            rintro e w2 ⟨rfl, z⟩
            have hR2 : w2.heap[w.heap.size + 1]? = some (.cells #[.int .u16 0, .int .u16 0, .int .u8 0, .bool false] 24 (0, 0)) := old_in (by (repeat (first | rw [heap_setCell_other _ _ _ _ ne2] | rw [heap_setCell_other _ _ _ _ ne3] | rw [heap_setCell_other _ _ _ _ ne4] | rw [heap_setCell_other _ _ _ _ ne5] | rw [heap_setCell_other _ _ _ _ ne8])); exact hR.out) z
            have hB2 : w2.heap[w.heap.size]? = some (.cells #[.int .u16 v, .int .u16 t, .int .u8 x, .bool g] 24 (0, 0)) := old_in (by (repeat (first | rw [heap_setCell_other _ _ _ _ ne2] | rw [heap_setCell_other _ _ _ _ ne3] | rw [heap_setCell_other _ _ _ _ ne4] | rw [heap_setCell_other _ _ _ _ ne5] | rw [heap_setCell_other _ _ _ _ ne8])); exact hB.out) z
            have hG2 : Below w.heap.size w w2 := below_call (by (repeat (first | (with_reducible exact hG.out) | (with_reducible refine below_set ?_ (by omega) _)))) z
            have HR2 := Lib.hid hR2
            have HB2 := Lib.hid hB2
            have HG2 := Lib.hid hG2
            clear hR2 hB2 hG2 z kB kT kV zB zT zV
            have kB2 := cells_of HB2.out
            have zB2 := frozen_of HB2.out
            go_wp2_with (refine wpList_store_row rfl 24 (.tmp 6) (.tmp 170) rfl (w.heap.size + 1) _ rfl rfl 24 #[.int .u16 0, .int .u16 0, .int .u8 0, .bool false] (by (repeat (rw [heap_setCell_other _ _ _ _ ne8])); exact HR2.out) (by kernel_rfl) rfl (one4 _ _ _ _) ?_)
            exact bodyPost_ret (results_cell_row (p := 6) (ty := 24) rfl _ _ (w.heap.size + 1) 24 _ (0, 0) _ rfl (setRow_heap _ _ #[.int .u16 0, .int .u16 0, .int .u8 0, .bool false] _ _ _ (by (repeat (rw [heap_setCell_other _ _ _ _ ne8])); exact HR2.out)) Try.underlying24 rfl (by kernel_rfl)) rfl ⟨rfl, Below.setRow (by (repeat (first | (with_reducible exact HG2.out) | (with_reducible refine below_set ?_ (Nat.le_refl _) _)))) (Nat.le_succ _) _⟩
    · have hM := HM.out
      obtain rfl : M = 8 := hM
      clear HM
      have r1' : pt a' b h' k f = v2 := by rw [← r1]; show _ = ac v t; rw [← hhv, ← hht, ac_pt s s']
      have r2' : t = t2 := r2
      have r3' : x = x2 := r3
      have r4' : g = g2 := r4
      clear r1 r2 r3 r4 hhv hht
      subst r1' r2' r3' r4'
      go_wp2_with fail
      go_region
      go_wp2_with fail
      refine (whole_any a' b h' k f _ ⟨s'.ha, s.hb, s'.hh, s.hk, s.hf⟩).mono ?_
      rintro e w2 ⟨rfl, z⟩
      have hR2 : w2.heap[w.heap.size + 1]? = some (.cells #[.int .u16 0, .int .u16 0, .int .u8 0, .bool false] 24 (0, 0)) := old_in (by (repeat (first | (with_reducible rw [at_dr]) | rw [heap_setCell_other _ _ _ _ ne2] | rw [heap_setCell_other _ _ _ _ ne3] | rw [heap_setCell_other _ _ _ _ ne4] | rw [heap_setCell_other _ _ _ _ ne5] | rw [heap_setCell_other _ _ _ _ ne8])); exact hR.out) z
      have hB2 : w2.heap[w.heap.size]? = some (.cells #[.int .u16 v, .int .u16 t, .int .u8 x, .bool g] 24 (0, 0)) := old_in (by (repeat (first | (with_reducible rw [at_dr]) | rw [heap_setCell_other _ _ _ _ ne2] | rw [heap_setCell_other _ _ _ _ ne3] | rw [heap_setCell_other _ _ _ _ ne4] | rw [heap_setCell_other _ _ _ _ ne5] | rw [heap_setCell_other _ _ _ _ ne8])); exact hB.out) z
      have hG2 : Below w.heap.size w w2 := below_call (by (repeat (first | (with_reducible exact hG.out) | (with_reducible refine below_set ?_ (by omega) _) | (with_reducible refine Below.drew ?_)))) z
      have HR2 := Lib.hid hR2
      have HB2 := Lib.hid hB2
      have HG2 := Lib.hid hG2
      clear hR2 hB2 hG2 z kB kT kV zB zT zV
      have kB2 := cells_of HB2.out
      have zB2 := frozen_of HB2.out
      go_wp2_with (refine wpList_store_row rfl 24 (.tmp 6) (.tmp 170) rfl (w.heap.size + 1) _ rfl rfl 24 #[.int .u16 0, .int .u16 0, .int .u8 0, .bool false] (by (repeat (rw [heap_setCell_other _ _ _ _ ne8])); exact HR2.out) (by kernel_rfl) rfl (one4 _ _ _ _) ?_)
      exact bodyPost_ret (results_cell_row (p := 6) (ty := 24) rfl _ _ (w.heap.size + 1) 24 _ (0, 0) _ rfl (setRow_heap _ _ #[.int .u16 0, .int .u16 0, .int .u8 0, .bool false] _ _ _ (by (repeat (rw [heap_setCell_other _ _ _ _ ne8])); exact HR2.out)) Try.underlying24 rfl (by kernel_rfl)) rfl ⟨rfl, Below.setRow (by (repeat (first | (with_reducible exact HG2.out) | (with_reducible refine below_set ?_ (Nat.le_refl _) _)))) (Nat.le_succ _) _⟩
    · have hM := HM.out
      obtain rfl : M = 9 := hM
      clear HM
      have r1' : pt a b' h k' f' = v2 := by rw [← r1]; show _ = tp v t; rw [← hhv, ← hht, tp_pt s s']
      have r2' : t = t2 := r2
      have r3' : x = x2 := r3
      have r4' : g = g2 := r4
      clear r1 r2 r3 r4 hhv hht
      subst r1' r2' r3' r4'
      go_wp2_with fail
      go_region
      go_wp2_with fail
      refine (whole_any a b' h k' f' _ ⟨s.ha, s'.hb, s.hh, s'.hk, s'.hf⟩).mono ?_
      rintro e w2 ⟨rfl, z⟩
      have hR2 : w2.heap[w.heap.size + 1]? = some (.cells #[.int .u16 0, .int .u16 0, .int .u8 0, .bool false] 24 (0, 0)) := old_in (by (repeat (first | (with_reducible rw [at_dr]) | rw [heap_setCell_other _ _ _ _ ne2] | rw [heap_setCell_other _ _ _ _ ne3] | rw [heap_setCell_other _ _ _ _ ne4] | rw [heap_setCell_other _ _ _ _ ne5] | rw [heap_setCell_other _ _ _ _ ne8])); exact hR.out) z
      have hB2 : w2.heap[w.heap.size]? = some (.cells #[.int .u16 v, .int .u16 t, .int .u8 x, .bool g] 24 (0, 0)) := old_in (by (repeat (first | (with_reducible rw [at_dr]) | rw [heap_setCell_other _ _ _ _ ne2] | rw [heap_setCell_other _ _ _ _ ne3] | rw [heap_setCell_other _ _ _ _ ne4] | rw [heap_setCell_other _ _ _ _ ne5] | rw [heap_setCell_other _ _ _ _ ne8])); exact hB.out) z
      have hG2 : Below w.heap.size w w2 := below_call (by (repeat (first | (with_reducible exact hG.out) | (with_reducible refine below_set ?_ (by omega) _) | (with_reducible refine Below.drew ?_)))) z
      have HR2 := Lib.hid hR2
      have HB2 := Lib.hid hB2
      have HG2 := Lib.hid hG2
      clear hR2 hB2 hG2 z kB kT kV zB zT zV
      have kB2 := cells_of HB2.out
      have zB2 := frozen_of HB2.out
      go_wp2_with (refine wpList_store_row rfl 24 (.tmp 6) (.tmp 170) rfl (w.heap.size + 1) _ rfl rfl 24 #[.int .u16 0, .int .u16 0, .int .u8 0, .bool false] (by (repeat (rw [heap_setCell_other _ _ _ _ ne8])); exact HR2.out) (by kernel_rfl) rfl (one4 _ _ _ _) ?_)
      exact bodyPost_ret (results_cell_row (p := 6) (ty := 24) rfl _ _ (w.heap.size + 1) 24 _ (0, 0) _ rfl (setRow_heap _ _ #[.int .u16 0, .int .u16 0, .int .u8 0, .bool false] _ _ _ (by (repeat (rw [heap_setCell_other _ _ _ _ ne8])); exact HR2.out)) Try.underlying24 rfl (by kernel_rfl)) rfl ⟨rfl, Below.setRow (by (repeat (first | (with_reducible exact HG2.out) | (with_reducible refine below_set ?_ (Nat.le_refl _) _)))) (Nat.le_succ _) _⟩
end Go.Proofs.Ytleggfpcgdpoaaa
