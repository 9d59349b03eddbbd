/- The contract of package opcode's Decode. -/
import Derived.Test.YtbekiknbjpdchaaN
import Derived.Test.YtbekiknbjpdchaaC
import Derived.Test.YtbekiknbjpdchaaCalm
import Derived.Deep.DeepCutAuto
namespace Go.Proofs.Ytbekiknbjpdchaa
open Go.ChangeShapes Go.WideShapes Go.ChangeAt Go.RowKit
set_option linter.unusedVariables false
theorem old_in {W w' : World} {g : Nat} {o : Obj} (hg : W.heap[g]? = some o) (h : Below W.heap.size W w') : w'.heap[g]? = some o := by
  rcases Nat.lt_or_ge g W.heap.size with h1 | h1
  · exact (h.block _ h1).trans hg
  · rw [Array.getElem?_eq_none h1] at hg
    cases hg
theorem below_call {w W w' : World} (h0 : Below w.heap.size w W) (h : Below W.heap.size W w') : Below w.heap.size w w' := h0.trans (h.mono h0.size)
theorem below_row {B : Nat} {a w : World} (h : Below B a w) {g : Nat} (hg : B ≤ g) (cs : Array Value) : Below B a (w.setRow g cs) :=
  ⟨h.os, h.tape, h.output, by simpa using h.size, fun k hk => (setRow_other w g k cs (by omega)).trans (h.block k hk)⟩
theorem cells_of {w' : World} {g : Nat} {cs : Array Value} {t : TypeId} (h : w'.heap[g]? = some (.cells cs t (0, 0))) : ∀ j, w'.cell? ⟨g, j, none⟩ = cs[j]? := fun j => cell_of_row _ _ j cs t (0, 0) h
theorem frozen_of {x : World} {g : Nat} {cs : Array Value} {t : TypeId} (h : x.heap[g]? = some (.cells cs t (0, 0))) : ∀ j, x.frozen? ⟨g, j, none⟩ = false := fun j => by simp [World.frozen?, h]
theorem below_set {B : Nat} {a w : World} (h : Below B a w) {g j : Nat} (hg : B ≤ g) (v : Value) : Below B a (w.setCell ⟨g, j, none⟩ v) := h.setCell (p := ⟨g, j, none⟩) hg v
theorem cell_lt {w : World} {v : Value} (h : w.cell? ⟨0, 0, none⟩ = some v) : 0 < w.heap.size := by
  rcases Nat.eq_zero_or_pos w.heap.size with q | q
  · have hn : w.heap[0]? = none := Array.getElem?_eq_none (by omega)
    simp [World.cell?, hn] at h
  · exact q
theorem hm_below {W w' : World} {v : Value} {B : Nat} (h : W.cell? ⟨0, 0, none⟩ = some v) (hB : 0 < B) (hb : Below B W w') : w'.cell? ⟨0, 0, none⟩ = some v := (hb.cell (p := ⟨0, 0, none⟩) hB).trans h
theorem raSize : (tableAt Try.f8 3).size < 4294967281 := of_decide_eq_true (by kernel_rfl)
/-- a mode and a use that go together -/
def Fits (m u : Int) : Prop := (u = 0 ∧ (m = 0 ∨ m = 1 ∨ m = 11 ∨ m = 12 ∨ m = 13 ∨ m = 14 ∨ m = 15 ∨ m = 16 ∨ m = 17 ∨ m = 18 ∨ m = 19 ∨ m = 20)) ∨ ((u = 1 ∨ u = 2 ∨ u = 3) ∧ (m = 2 ∨ m = 3 ∨ m = 4 ∨ m = 5 ∨ m = 6 ∨ m = 7 ∨ m = 8 ∨ m = 9 ∨ m = 10))
set_option maxRecDepth 100000 in
set_option maxHeartbeats 4000000 in
theorem decode_core (op k : Int) (i : Nat) (N M L R s : ByteArray) (m u c : Int) (w : World) (hN : tableAt Try.f8 0 = N) (hM : tableAt Try.f8 1 = M) (hL : tableAt Try.f8 2 = L) (h0 : op = i) (h1 : i < 256) (hm : w.cell? ⟨0, 0, none⟩ = some (.int .i64 k))
    (hs : N.extract (3 * i) (3 * i + 3) = s) (hmd : ∀ h : i < M.size, Lib.indexByte L.data.toList (M[i]'h) = m) (hu : us s.data.toList m = u) (hv : Fits m u) (hcy : cy m u = c) (cr gd : Bool) (hR : tableAt Try.f8 3 = R) (hcr : cr = (decide (m = 11) || (crs m && decide (u = 1)))) (hgd : gd = (!Lib.contains R.data.toList s.data.toList && (decide (¬ s.toList = [78, 79, 80]) || ((i : Int) == 234)) && ((i : Int) != 235))) : Calls Try.prog 8 #[.int .u8 op] w fun e w' => e = .returned (.agg #[.string s, .int .i64 m, .int .i64 u, .int .i64 c, .bool cr, .bool gd]) ∧ Below w.heap.size w w' := by
  have Hcy := Lib.hid hcy
  clear hcy
  have HRA := Lib.hid hR
  clear hR
  have Hm0 := Lib.hid hm
  go_enter Try.func8, Try.ntmps8
  go_upto_region 2 with fail
  generalize gN : ByteArray.mk _ = N'
  generalize gM : ByteArray.mk _ = M'
  generalize gL : ByteArray.mk _ = L'
  obtain rfl : N' = N := by rw [← gN, ← hN]; kernel_rfl
  obtain rfl : M' = M := by rw [← gM, ← hM]; kernel_rfl
  obtain rfl : L' = L := by rw [← gL, ← hL]; kernel_rfl
  have sN : N'.size = 768 := by rw [← hN]; exact sizes.1
  have sM : M'.size = 256 := by rw [← hM]; exact sizes.2.1
  clear gN gM gL hN hM hL
  have Hs := Lib.hid hs
  have Hmd := Lib.hid hmd
  have Hcr := Lib.hid hcr
  have Hgd := Lib.hid hgd
  clear hs hmd hcr hgd
  have hi : (i : Int) < 256 := by omega
  have e1 : IntKind.i64.wrap (3 * (i : Int)) = 3 * (i : Int) := IntWalk.i64_in _ (by omega)
  have e2 : IntKind.i64.wrap (3 * (i : Int) + 3) = 3 * (i : Int) + 3 := IntWalk.i64_in _ (by omega)
  have c1 : 0 ≤ 3 * (i : Int) + 3 := by omega
  have c2 : 3 * (i : Int) + 3 ≤ 768 := by omega
  have c3 : 0 ≤ 3 * (i : Int) := by omega
  have c4 : 3 * (i : Int) ≤ 3 * (i : Int) + 3 := by omega
  have t1 : (3 * (i : Int)).toNat = 3 * i := by omega
  have t2 : (3 * (i : Int) + 3).toNat = 3 * i + 3 := by omega
  generalize hW : World.alloc _ _ = W
  have hR := Lib.hid (show W.heap[w.heap.size]? = some (.cells #[.string ⟨#[]⟩, .int .i64 0, .int .i64 0, .int .i64 0, .bool false, .bool false] 23 (0, 0)) from by rw [← hW]; exact heap_alloc_new _ _)
  have hsz : W.heap.size = w.heap.size + 1 := by rw [← hW, World.size_alloc]
  have hG := Lib.hid (show Below w.heap.size w W from by rw [← hW]; exact (Below.refl _ _).alloc (Nat.le_refl _) _)
  have hz := cell_lt hm
  have HM := Lib.hid (hm_below hm hz hG.out)
  have Hsz := Lib.hid hsz
  clear hW hm hsz
  refine wp_region_calm 10 (by kernel_rfl) (by kernel_rfl) (fun _ _ d _ _ h => by cases d <;> exact h) (S := fun x => Below W.heap.size W x) ((Below.refl _ _).drew) ?_
  simp only [List.take_succ_cons, List.take_zero, List.drop_succ_cons, List.drop_zero]
  refine wpCalm_yes ?_ ?_ (fun x hx => ?_) ?_
  rotate_left
  · rfl
  · clear hx
    go_simp
    first | done | (with_reducible rfl) | rfl
  simp only [Act.put, List.setIfInBounds_toArray, List.set_cons_zero, List.set_cons_succ]
  refine wpCalm_yes ?_ ?_ (fun x hx => ?_) ?_
  rotate_left
  · rfl
  · clear hx
    go_simp
    first | done | (with_reducible rfl) | rfl
  simp only [Act.put, List.setIfInBounds_toArray, List.set_cons_zero, List.set_cons_succ]
  refine wpCalm_yes ?_ ?_ (fun x hx => ?_) ?_
  rotate_left
  · rfl
  · clear hx
    go_simp
    first | done | (with_reducible rfl) | rfl
  simp only [Act.put, List.setIfInBounds_toArray, List.set_cons_zero, List.set_cons_succ]
  refine wpCalm_yes ?_ ?_ (fun x hx => ?_) ?_
  rotate_left
  · rfl
  · clear hx
    go_simp
    first | done | (with_reducible rfl) | rfl
  simp only [Act.put, List.setIfInBounds_toArray, List.set_cons_zero, List.set_cons_succ]
  refine wpCalm_yes ?_ ?_ (fun x hx => ?_) ?_
  rotate_left
  · rfl
  · clear hx
    go_simp
    first | done | (with_reducible rfl) | rfl
  simp only [Act.put, List.setIfInBounds_toArray, List.set_cons_zero, List.set_cons_succ]
  refine wpCalm_yes ?_ ?_ (fun x hx => ?_) ?_
  rotate_left
  · rfl
  · clear hx
    go_simp
    first | done | (with_reducible rfl) | rfl
  simp only [Act.put, List.setIfInBounds_toArray, List.set_cons_zero, List.set_cons_succ]
  refine wpCalm_yes ?_ ?_ (fun x hx => ?_) ?_
  rotate_left
  · rfl
  · clear hx
    go_simp
    first | done | (with_reducible rfl) | rfl
  simp only [Act.put, List.setIfInBounds_toArray, List.set_cons_zero, List.set_cons_succ]
  refine wpCalm_yes ?_ ?_ (fun x hx => ?_) ?_
  rotate_left
  · rfl
  · clear hx
    go_simp
    first | done | (with_reducible rfl) | rfl
  simp only [Act.put, List.setIfInBounds_toArray, List.set_cons_zero, List.set_cons_succ]
  refine wpCalm_yes ?_ ?_ (fun x hx => ?_) ?_
  rotate_left
  · rfl
  · clear hx
    go_simp
    (have q := Try.strings_IndexByte L' (M'[i].toNat : Int) x; exact q)
  simp only [Act.put, List.setIfInBounds_toArray, List.set_cons_zero, List.set_cons_succ]
  refine wpCalm_yes ?_ ?_ (fun x hx => ?_) ?_
  rotate_left
  · rfl
  · clear hx
    go_simp
    first | done | (with_reducible rfl) | rfl
  simp only [Act.put, List.setIfInBounds_toArray, List.set_cons_zero, List.set_cons_succ]
  refine wpCalm_end ?_
  refine wpSeq_yes rfl ?_
  go_simp
  refine ⟨((Below.refl _ _).alloc (Nat.le_refl _) _).drew, ?_⟩
  refine wpSeq_yes rfl ?_
  go_simp
  refine ⟨((Below.refl _ _).alloc (Nat.le_refl _) _).drew, wpSeq_end ?_⟩
  simp only [Hs.out, Hmd.out]
  have hB := Lib.hid (show (W.alloc (.cells #[.string s, .int .i64 m, .int .i64 0, .int .i64 0, .bool false, .bool false] 23)).heap[W.heap.size]? = some (.cells #[.string s, .int .i64 m, .int .i64 0, .int .i64 0, .bool false, .bool false] 23 (0, 0)) from heap_alloc_new _ _)
  have hR2 := Lib.hid ((heap_alloc_old W (.cells #[.string s, .int .i64 m, .int .i64 0, .int .i64 0, .bool false, .bool false] 23) (by rw [Hsz.out]; exact Nat.lt_succ_self _)).trans hR.out)
  have hG2 := Lib.hid (hG.out.alloc hG.out.size (.cells #[.string s, .int .i64 m, .int .i64 0, .int .i64 0, .bool false, .bool false] 23)).drew
  have HM2 := Lib.hid (show (W.alloc (.cells #[.string s, .int .i64 m, .int .i64 0, .int .i64 0, .bool false, .bool false] 23)).drew.cell? ⟨0, 0, none⟩ = some (.int .i64 k) from hm_below HM.out hz ((Below.refl w.heap.size W).alloc hG.out.size _).drew)
  have hz2 : w.heap.size < W.heap.size := by rw [Hsz.out]; exact Nat.lt_succ_self _
  clear hR hG HM Hsz
  generalize W.heap.size = B at hB hR2 hz2 ⊢
  generalize hX : World.drew _ = X
  have hBX := Lib.hid (show X.heap[B]? = some (.cells #[.string s, .int .i64 m, .int .i64 0, .int .i64 0, .bool false, .bool false] 23 (0, 0)) from by rw [← hX]; exact hB.out)
  have hRX := Lib.hid (show X.heap[w.heap.size]? = some (.cells #[.string ⟨#[]⟩, .int .i64 0, .int .i64 0, .int .i64 0, .bool false, .bool false] 23 (0, 0)) from by rw [← hX]; exact hR2.out)
  have hGX := Lib.hid (show Below w.heap.size w X from by rw [← hX]; exact hG2.out)
  have hmX := Lib.hid (show X.cell? ⟨0, 0, none⟩ = some (.int .i64 k) from by rw [← hX]; exact HM2.out)
  clear hX hB hR2 hG2 HM2
  have hu2 := hu
  clear hu
  have kB := cells_of hBX.out
  have zB := frozen_of hBX.out
  go_wp2_with fail
  have q1 := use_any s m k X hmX.out
  rw [hu2] at q1
  refine q1.mono ?_
  clear q1
  rintro e w1 ⟨rfl, rfl⟩
  go_wp2_with fail
  refine (cycles_any m u _ hv).mono ?_
  rintro e w2 ⟨he, z⟩
  rw [Hcy.out] at he
  subst he
  have hne : w.heap.size ≠ B := Nat.ne_of_lt hz2
  have hB2 := Lib.hid (show w2.heap[B]? = some (.cells #[.string s, .int .i64 m, .int .i64 u, .int .i64 0, .bool false, .bool false] 23 (0, 0)) from old_in (heap_setCell_same w1 B 2 _ 23 (.int .i64 u) hBX.out) z)
  have hR2 := Lib.hid (old_in ((heap_setCell_other w1 ⟨B, 2, none⟩ w.heap.size (.int .i64 u) hne).trans hRX.out) z)
  have hG2 := Lib.hid (below_call (below_set hGX.out (Nat.le_of_lt hz2) (.int .i64 u)) z)
  clear z hBX hRX hGX hmX kB zB
  have kB := cells_of hB2.out
  have zB := frozen_of hB2.out
  go_upto_region 5 with fail
  have hB3 := Lib.hid (show (w2.setCell ⟨B, 3, none⟩ (.int .i64 c)).heap[B]? = some (.cells #[.string s, .int .i64 m, .int .i64 u, .int .i64 c, .bool false, .bool false] 23 (0, 0)) from heap_setCell_same w2 B 3 _ 23 (.int .i64 c) hB2.out)
  have hR3 := Lib.hid ((heap_setCell_other w2 ⟨B, 3, none⟩ w.heap.size (.int .i64 c) hne).trans hR2.out)
  have hG3 := Lib.hid (below_set hG2.out (Nat.le_of_lt hz2) (j := 3) (.int .i64 c))
  generalize w2.setCell ⟨B, 3, none⟩ (.int .i64 c) = w3 at hB3 hR3 hG3 ⊢
  clear hB2 hR2 hG2 kB zB
  go_cut [3] (fun p y => p = .int .i64 i ∧ Hid (y.heap[B]? = some (.cells #[.string s, .int .i64 m, .int .i64 u, .int .i64 c, .bool cr, .bool false] 23 (0, 0))) ∧ Hid (y.heap[w.heap.size]? = some (.cells #[.string ⟨#[]⟩, .int .i64 0, .int .i64 0, .int .i64 0, .bool false, .bool false] 23 (0, 0))) ∧ Hid (Below w.heap.size w y))
  case first =>
    have kB := cells_of hB3.out
    have zB := frozen_of hB3.out
    by_cases c11 : m = 11
    · have b11 : (m == 11) = true := by simp [c11]
      have e : cr = true := by rw [Hcr.out, c11]; rfl
      subst e
      go_wp2_with (go_at_call 18; refine (crosses_any _ _).mono ?_; rintro e w' ⟨rfl, rfl⟩)
      go_meet
      case rel => exact ⟨rfl, heap_setCell_same _ B 4 _ 23 (.bool true) hB3.out, (heap_setCell_other _ ⟨B, 4, none⟩ w.heap.size _ hne).trans hR3.out, below_set hG3.out (Nat.le_of_lt hz2) _⟩
    · have b11 : (m == 11) = false := by simp [c11]
      cases hc : crs m
      · have e : cr = false := by rw [Hcr.out, hc]; simp [c11]
        subst e
        go_wp2_with (go_at_call 18; have q := crosses_any m; rw [hc] at q; refine (q _).mono ?_; clear q; rintro e w' ⟨rfl, rfl⟩)
        go_meet
        case rel => exact ⟨rfl, heap_setCell_same _ B 4 _ 23 (.bool false) hB3.out, (heap_setCell_other _ ⟨B, 4, none⟩ w.heap.size _ hne).trans hR3.out, below_set hG3.out (Nat.le_of_lt hz2) _⟩
      · by_cases cu : u = 1
        · have bu : (u == 1) = true := by simp [cu]
          have e : cr = true := by rw [Hcr.out, hc]; simp [cu]
          subst e
          go_wp2_with (go_at_call 18; have q := crosses_any m; rw [hc] at q; refine (q _).mono ?_; clear q; rintro e w' ⟨rfl, rfl⟩)
          go_meet
          case rel => exact ⟨rfl, heap_setCell_same _ B 4 _ 23 (.bool true) hB3.out, (heap_setCell_other _ ⟨B, 4, none⟩ w.heap.size _ hne).trans hR3.out, below_set hG3.out (Nat.le_of_lt hz2) _⟩
        · have bu : (u == 1) = false := by simp [cu]
          have e : cr = false := by rw [Hcr.out, hc]; simp [c11, cu]
          subst e
          go_wp2_with (go_at_call 18; have q := crosses_any m; rw [hc] at q; refine (q _).mono ?_; clear q; rintro e w' ⟨rfl, rfl⟩)
          go_meet
          case rel => exact ⟨rfl, heap_setCell_same _ B 4 _ 23 (.bool false) hB3.out, (heap_setCell_other _ ⟨B, 4, none⟩ w.heap.size _ hne).trans hR3.out, below_set hG3.out (Nat.le_of_lt hz2) _⟩
  case rest =>
    obtain ⟨rfl, hB4, hR4, hG4⟩ := hcut
    clear hB3 hR3 hG3
    go_upto_region 6 with fail
    go_cut [3] (fun p y => p = .int .i64 i ∧ Hid (y.heap[B]? = some (.cells #[.string s, .int .i64 m, .int .i64 u, .int .i64 c, .bool cr, .bool gd] 23 (0, 0))) ∧ Hid (y.heap[w.heap.size]? = some (.cells #[.string ⟨#[]⟩, .int .i64 0, .int .i64 0, .int .i64 0, .bool false, .bool false] 23 (0, 0))) ∧ Hid (Below w.heap.size w y))
    case first =>
      have kB := cells_of hB4.out
      have zB := frozen_of hB4.out
      cases hc : Lib.contains R.data.toList s.data.toList
      · by_cases hn : s.toList = [78, 79, 80]
        · cases b234 : ((i : Int) == 234)
          · have e : gd = false := by rw [Hgd.out, hc, b234]; simp [hn]
            subst e
            go_wp2_with fail
            generalize gR : ByteArray.mk _ = R'
            obtain rfl : R' = R := by rw [← gR, ← HRA.out]; kernel_rfl
            clear gR
            have q := Try.strings_Contains R' s k wc (by rw [← HRA.out]; exact raSize) (hm_below Hm0.out hz hG4.out)
            refine q.mono ?_
            rintro e w' ⟨rfl, rfl⟩
            rw [hc]
            clear q
            go_wp2_with fail
            go_meet
            case rel => exact ⟨rfl, heap_setCell_same _ B 5 _ 23 (.bool false) hB4.out, (heap_setCell_other _ ⟨B, 5, none⟩ w.heap.size _ hne).trans hR4.out, below_set hG4.out (Nat.le_of_lt hz2) _⟩
          · have e : gd = ((i : Int) != 235) := by rw [Hgd.out, hc, b234]; simp
            subst e
            go_wp2_with fail
            generalize gR : ByteArray.mk _ = R'
            obtain rfl : R' = R := by rw [← gR, ← HRA.out]; kernel_rfl
            clear gR
            have q := Try.strings_Contains R' s k wc (by rw [← HRA.out]; exact raSize) (hm_below Hm0.out hz hG4.out)
            refine q.mono ?_
            rintro e w' ⟨rfl, rfl⟩
            rw [hc]
            clear q
            go_wp2_with fail
            go_meet
            case rel => exact ⟨rfl, heap_setCell_same _ B 5 _ 23 (.bool ((i : Int) != 235)) hB4.out, (heap_setCell_other _ ⟨B, 5, none⟩ w.heap.size _ hne).trans hR4.out, below_set hG4.out (Nat.le_of_lt hz2) _⟩
        · have e : gd = ((i : Int) != 235) := by rw [Hgd.out, hc]; simp [hn]
          subst e
          go_wp2_with fail
          generalize gR : ByteArray.mk _ = R'
          obtain rfl : R' = R := by rw [← gR, ← HRA.out]; kernel_rfl
          clear gR
          have q := Try.strings_Contains R' s k wc (by rw [← HRA.out]; exact raSize) (hm_below Hm0.out hz hG4.out)
          refine q.mono ?_
          rintro e w' ⟨rfl, rfl⟩
          rw [hc]
          clear q
          go_wp2_with fail
          go_meet
          case rel => exact ⟨rfl, heap_setCell_same _ B 5 _ 23 (.bool ((i : Int) != 235)) hB4.out, (heap_setCell_other _ ⟨B, 5, none⟩ w.heap.size _ hne).trans hR4.out, below_set hG4.out (Nat.le_of_lt hz2) _⟩
      · have e : gd = false := by rw [Hgd.out, hc]; rfl
        subst e
        go_wp2_with fail
        generalize gR : ByteArray.mk _ = R'
        obtain rfl : R' = R := by rw [← gR, ← HRA.out]; kernel_rfl
        clear gR
        have q := Try.strings_Contains R' s k wc (by rw [← HRA.out]; exact raSize) (hm_below Hm0.out hz hG4.out)
        refine q.mono ?_
        rintro e w' ⟨rfl, rfl⟩
        rw [hc]
        clear q
        go_wp2_with fail
        go_meet
        case rel => exact ⟨rfl, heap_setCell_same _ B 5 _ 23 (.bool false) hB4.out, (heap_setCell_other _ ⟨B, 5, none⟩ w.heap.size _ hne).trans hR4.out, below_set hG4.out (Nat.le_of_lt hz2) _⟩
    case rest =>
      obtain ⟨rfl, hB5, hR5, hG5⟩ := hcut
      clear hB4 hR4 hG4
      have kB := cells_of hB5.out
      go_wp2_with (refine wpList_store_row rfl 23 (.tmp 2) (.tmp 61) rfl w.heap.size _ rfl rfl 23 #[.string ⟨#[]⟩, .int .i64 0, .int .i64 0, .int .i64 0, .bool false, .bool false] hR5.out (by kernel_rfl) rfl (by kernel_rfl) ?_)
      exact bodyPost_ret (results_cell_row (p := 2) (ty := 23) rfl _ _ w.heap.size 23 _ (0, 0) _ rfl (setRow_heap _ _ #[.string ⟨#[]⟩, .int .i64 0, .int .i64 0, .int .i64 0, .bool false, .bool false] _ _ _ hR5.out) Try.underlying23 rfl (by kernel_rfl)) rfl ⟨rfl, below_row hG5.out (Nat.le_refl _) _⟩
/-- what Decode tells of opcode number i, by the tables: name, mode, use, cycles, whether a page counts, whether it is official -/
def oS (N : ByteArray) (i : Nat) : ByteArray := N.extract (3 * i) (3 * i + 3)
def oM (M L : ByteArray) (i : Nat) : Int := Lib.indexByte L.data.toList (M.data.toList.getD i 0)
def oU (N M L : ByteArray) (i : Nat) : Int := us (oS N i).data.toList (oM M L i)
def oC (N M L : ByteArray) (i : Nat) : Int := cy (oM M L i) (oU N M L i)
def oX (N M L : ByteArray) (i : Nat) : Bool := decide (oM M L i = 11) || (crs (oM M L i) && decide (oU N M L i = 1))
def oG (N R : ByteArray) (i : Nat) : Bool := !Lib.contains R.data.toList (oS N i).data.toList && (decide (¬ (oS N i).toList = [78, 79, 80]) || ((i : Int) == 234)) && ((i : Int) != 235)
theorem fits (m : Int) (l : List UInt8) (h0 : 0 ≤ m) (h1 : m ≤ 20) : Fits m (us l m) := by
  unfold Fits us
  by_cases h : m < 2 ∨ 10 < m
  · rw [if_pos h]
    omega
  · rw [if_neg h]
    right
    constructor
    · split
      · exact .inr (.inl rfl)
      · split
        · exact .inr (.inr rfl)
        · exact .inl rfl
    · omega
/-- what is asked of opcode number i, by the tables -/
def goodO (N M L : ByteArray) (i : Nat) : Bool := decide (0 ≤ oM M L i) && decide (oM M L i ≤ 20) && (decide (oM M L i ≠ 2) || decide (oU N M L i = 1)) && decide ((oS N i).size = 3)
theorem all_good2 : (List.range 256).all (goodO (tableAt Try.f8 0) (tableAt Try.f8 1) (tableAt Try.f8 2)) = true := by decide +kernel
theorem good_at (i : Nat) (h : i < 256) : (0 ≤ oM (tableAt Try.f8 1) (tableAt Try.f8 2) i ∧ oM (tableAt Try.f8 1) (tableAt Try.f8 2) i ≤ 20) ∧ (oM (tableAt Try.f8 1) (tableAt Try.f8 2) i = 2 → oU (tableAt Try.f8 0) (tableAt Try.f8 1) (tableAt Try.f8 2) i = 1) ∧ (oS (tableAt Try.f8 0) i).size = 3 := by
  have q := List.all_eq_true.1 all_good2 i (List.mem_range.2 h)
  unfold goodO at q
  simp only [Bool.and_eq_true, decide_eq_true_eq, Bool.or_eq_true] at q
  obtain ⟨⟨⟨a, b⟩, c⟩, d⟩ := q
  exact ⟨⟨a, b⟩, fun e => c.resolve_left fun f => f e, d⟩
theorem decode_any (i : Nat) (h1 : i < 256) (N M L R : ByteArray) (hN : tableAt Try.f8 0 = N) (hM : tableAt Try.f8 1 = M) (hL : tableAt Try.f8 2 = L) (hR : tableAt Try.f8 3 = R) (k : Int) (w : World) (hm : w.cell? ⟨0, 0, none⟩ = some (.int .i64 k)) :
    Calls Try.prog 8 #[.int .u8 i] w fun e w' => e = .returned (.agg #[.string (oS N i), .int .i64 (oM M L i), .int .i64 (oU N M L i), .int .i64 (oC N M L i), .bool (oX N M L i), .bool (oG N R i)]) ∧ Below w.heap.size w w' := by
  have hg := good_at i h1
  rw [hN, hM, hL] at hg
  refine decode_core (i : Int) k i N M L R (oS N i) (oM M L i) (oU N M L i) (oC N M L i) w hN hM hL rfl h1 hm rfl (fun h => ?_) rfl (fits _ _ hg.1.1 hg.1.2) rfl (oX N M L i) (oG N R i) hR rfl rfl
  unfold oM
  congr 1
  rw [List.getD_eq_getElem?_getD, List.getElem?_eq_getElem (by simpa using h)]
  rfl
end Go.Proofs.Ytbekiknbjpdchaa
