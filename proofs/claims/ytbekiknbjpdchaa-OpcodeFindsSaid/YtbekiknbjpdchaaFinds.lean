/-
  OpcodeFinds: at every input the law returns true and leaves its arguments as they were. No condition.
-/
import Derived.Test.YtbekiknbjpdchaaV
import Derived.OpenShut
import Derived.HandedShaped
import Derived.ChangeMaps5
import Derived.BigQuiet
import Derived.Deep.DeepCutAuto
namespace Go.Proofs.Ytbekiknbjpdchaa.opcodeFinds
open Go.Proofs.Ytbekiknbjpdchaa
open Go.ChangeShapes Go.WideShapes Go.ChangeAt Go.RowKit
set_option linter.unusedVariables false
theorem own : ownKnob Try.prog.godebug = none := by kernel_rfl
theorem keeps_row {w1 w2 : World} {row : Array Value} {o2 : Obj} {r : Option Nat} (hg : ((w1.alloc (.cells row 23)).alloc o2).grownBy w2 r) (hr : ∀ g, r = some g → g < w1.heap.size) : w2.heap[w1.heap.size]? = some (.cells row 23 (0, 0)) := by
  have h1 : w1.heap.size < (w1.alloc (.cells row 23)).heap.size := by rw [World.size_alloc]; exact Nat.lt_succ_self _
  have h2 : w1.heap.size < ((w1.alloc (.cells row 23)).alloc o2).heap.size := by rw [World.size_alloc]; exact Nat.lt_succ_of_lt h1
  rw [hg.block _ h2 (fun q => Nat.lt_irrefl _ (hr _ q.symm)), heap_alloc_old _ o2 h1]
  exact heap_alloc_new _ _
theorem one_new_at (W : World) (n : Int) (e : TypeId) (q : Nat) (hq : q = W.heap.size) : ∀ j u, [Value.int .u8 n][j]? = some u → (W.alloc (.cells #[.int .u8 n] e)).cell? ((⟨q, 0, none⟩ : Addr).add j) = some u := by
  subst hq
  exact one_new W n e
theorem both_nil {N M L s : ByteArray} {md : Int} {n : Nat} (h : sel N s n = []) : both N M L s md n = [] := by
  unfold both
  rw [h]
  rfl
set_option maxRecDepth 100000 in
set_option maxHeartbeats 8000000 in
theorem walk (s : ByteArray) (md : Int) (k : Int) (w : World) (hm : w.cell? ⟨0, 0, none⟩ = some (.int .i64 k)) :
    Calls Try.prog 7 #[.string s, .int .i64 md] w fun r w' => r = .returned (.bool true) ∧ Below w.heap.size w w' := by
  obtain ⟨N, hN⟩ : ∃ N, tableAt Try.f8 0 = N := ⟨_, rfl⟩
  obtain ⟨M, hM⟩ : ∃ M, tableAt Try.f8 1 = M := ⟨_, rfl⟩
  obtain ⟨L, hL⟩ : ∃ L, tableAt Try.f8 2 = L := ⟨_, rfl⟩
  obtain ⟨R, hR⟩ : ∃ R, tableAt Try.f8 3 = R := ⟨_, rfl⟩
  obtain ⟨i0, hi, hz0, hz1, hz2⟩ := info_parts info5
  have Q2 := Lib.hid (fun W h => awake_any N M L R hN hM hL hR k W h)
  have Q3 := Lib.hid (fun (n : Nat) (h : n < 256) W => rdecode_int (n : Int) n rfl h N M L R hN hM hL hR W)
  have Q4 := Lib.hid (fun W h => all_any N M L R hN hM hL hR k s W h)
  have Q5 := Lib.hid (fun W h => find_any N M L R hN hM hL hR k md s W h)
  have Hm := Lib.hid hm
  have hz := cell_lt hm
  clear hN hM hL hR hm
  go_enter Try.func7, Try.ntmps7
  go_wp2_with fail
  go_loopw [5, 6, 7] (fun a b i wr => ∃ n : Nat, n ≤ 256 ∧ i = .int .i64 n ∧ Hid (Two w wr N M L s md n n a b)) (fun _ _ i _ => 256 - (intOf i).toNat)
  case atStart => exact ⟨0, by omega, rfl, Two.start w N M L s md⟩
  case round =>
    obtain ⟨n, hn, rfl, ht⟩ := hrel
    by_cases hlt : n < 256
    · have e0 : IntKind.u8.wrap (n : Int) = n := IntWalk.u8_in _ (by omega)
      go_wp2_with fail
      refine (Q3.out n hlt _).mono ?_
      rintro e w1 ⟨rfl, z⟩
      generalize oU N M L n = u
      generalize oC N M L n = c
      generalize oX N M L n = x
      generalize oG N R n = g
      have T1 := Lib.hid ((ht.out.on z).alloc (.cells #[.string (oS N n), .int .i64 (oM M L n), .int .i64 u, .int .i64 c, .bool x, .bool g] 23))
      have HA : Hid (∀ g, u5.ownBlock = some g → g < w1.heap.size) := fun g hg => Nat.lt_of_lt_of_le (ht.out.oa.lt g hg).2 z.size
      have Hsz : w.heap.size ≤ w1.heap.size := Nat.le_trans ht.out.below.size z.size
      clear z ht
      by_cases hs : oS N n = s
      · have bs : ((oS N n).toList == s.toList) = true := by rw [hs]; exact beq_self_eq_true _
        have HS := Lib.hid hs
        clear hs
        have hl := sel_le N s n
        have hl2 := both_le N M L s md n
        by_cases hm : oM M L n = md
        · have bm : (oM M L n == md) = true := by rw [hm]; exact beq_self_eq_true _
          have HMd := Lib.hid hm
          clear hm
          go_wp2_with (first | (at_builtin; refine wpList_append_own_at _ rfl (.tmp 26) (.tmp 29) 30 rfl w.heap.size 5 i0 (.int .u8 0) 1 1 Try.underlying30 hi hz0 hz1 hz2 rfl (by decide) _ _ _ rfl (T1.out.oa.alloc _) ⟨_, 0, none⟩ 1 1 [.int .u8 n] rfl rfl (one_new_at _ _ _ _ (by first | rfl | rw [World.size_alloc])) (one_cells _) (by unfold maxLen; omega) (by omega) (size_past (T1.out.below.size) _) ?_; intro v' w2 ho2 hg2 _ hat; have T2 := Lib.hid (Two.first (T1.out.alloc _) HS.out ho2 hg2 hat); have k2 := cells_of (keeps_row hg2 HA.out); clear ho2 hg2 hat) | (at_builtin; refine wpList_append_own_at _ rfl (.tmp 35) (.tmp 38) 30 rfl w.heap.size 5 i0 (.int .u8 0) 1 1 Try.underlying30 hi hz0 hz1 hz2 rfl (by decide) _ _ _ rfl (T2.out.ob.alloc _) ⟨_, 0, none⟩ 1 1 [.int .u8 n] rfl rfl (one_new_at _ _ _ _ (by first | rfl | rw [World.size_alloc])) (one_cells _) (by unfold maxLen; omega) (by omega) (size_past (T2.out.below.size) _) ?_; intro v3 w3 ho3 hg3 _ hat; have T3 := Lib.hid (Two.second (T2.out.alloc _) HS.out HMd.out ho3 hg3 hat); clear ho3 hg3 hat))
          have T4 : Hid (Two w w3 N M L s md (n + 1) (n + 1) v' v3) := by assumption
          go_roundw
          case rel => exact ⟨n + 1, by omega, by go_num, T4⟩
          case measure => simp [intOf]; omega
        · have bm : (oM M L n == md) = false := by
            rw [beq_eq_false_iff_ne]
            exact hm
          have HMd := Lib.hid hm
          clear hm
          go_wp2_with (at_builtin; refine wpList_append_own_at _ rfl (.tmp 26) (.tmp 29) 30 rfl w.heap.size 5 i0 (.int .u8 0) 1 1 Try.underlying30 hi hz0 hz1 hz2 rfl (by decide) _ _ _ rfl (T1.out.oa.alloc _) ⟨_, 0, none⟩ 1 1 [.int .u8 n] rfl rfl (one_new_at _ _ _ _ (by first | rfl | rw [World.size_alloc])) (one_cells _) (by unfold maxLen; omega) (by omega) (size_past (T1.out.below.size) _) ?_; intro v' w2 ho2 hg2 _ hat; have T2 := Lib.hid (Two.other (Two.first (T1.out.alloc _) HS.out ho2 hg2 hat) HS.out HMd.out); have k2 := cells_of (keeps_row hg2 HA.out); clear ho2 hg2 hat)
          have T4 : Hid (Two w w2 N M L s md (n + 1) (n + 1) v' u6) := by assumption
          go_roundw
          case rel => exact ⟨n + 1, by omega, by go_num, T4⟩
          case measure => simp [intOf]; omega
      · have bs : ((oS N n).toList == s.toList) = false := by
          rw [beq_eq_false_iff_ne]
          exact fun q => hs (str_inj q)
        have T2 := Lib.hid (T1.out.stay hs)
        clear hs
        go_wp2_with fail
        go_roundw
        case rel => exact ⟨n + 1, by omega, by go_num, T2⟩
        case measure => simp [intOf]; omega
    · obtain rfl : n = 256 := by omega
      go_wp2_with fail
      have hmr := Lib.hid (hm_below Hm.out hz ht.out.below)
      refine (Q4.out _ hmr.out).mono ?_
      rintro e w2 ⟨l, rfl, hol, hbl, hnl⟩
      have T2 := Lib.hid (ht.out.on hbl)
      have HOL := Lib.hid hol
      have HNL := Lib.hid hnl
      have hSl := sel_le N s 256
      clear hbl ht hmr hol hnl hn hlt
      by_cases hsel : sel N s 256 = []
      · have hb0 := both_nil (md := md) (M := M) (L := L) hsel
        have ea := T2.out.na hsel
        have eb := T2.out.nb hb0
        have el := HNL.out hsel
        have HT := Lib.hid T2.out.below
        have HB0 := Lib.hid hb0
        subst ea eb el
        clear T2 HOL HNL hsel hb0 hSl
        go_wp2_with fail
        refine wp_loop_rounds 1 ?_
        rw [rounds_succ]
        go_wp2_with fail
        have q5 := Q5.out _ (hm_below Hm.out hz HT.out)
        rw [show fnd (oG N R) (both N M L s md 256) = .tuple #[.int .u8 0, .int .i64 2] from if_pos HB0.out] at q5
        have Q5' := Lib.hid q5
        clear q5 HB0
        refine Q5'.out.mono ?_
        rintro e w5 ⟨rfl, hb5⟩
        have G5 := Lib.hid (below_call HT.out hb5)
        clear hb5 Q5' HT
        go_wp2_with fail
        refine (long_all _ _ _ _ _ _ _).mono ?_
        rintro e w6 ⟨rfl, hb6⟩
        have G6 := Lib.hid (below_call G5.out hb6)
        clear hb6 G5
        go_wp2_with fail
        refine (rlong_any _ _).mono ?_
        rintro e w7 ⟨rfl, rfl⟩
        go_wp2_with fail
        refine (Q2.out _ (hm_below Hm.out hz G6.out)).mono ?_
        rintro e w8 ⟨rfl, hb8⟩
        go_wp2
        go_ret
        exact ⟨rfl, below_call G6.out hb8⟩
      · have h0 : 0 < (sel N s 256).length := List.length_pos_iff.2 hsel
        obtain ⟨ga, ca, ea, hga0, hga, hca, hcam, hcella⟩ := owns_some T2.out.oa rfl h0
        obtain ⟨gl, cl, el, hgl0, hgl, hcl, hclm, hcelll⟩ := owns_some HOL.out rfl h0
        have HT := Lib.hid T2.out.below
        have HOB := Lib.hid T2.out.ob
        have HNB := Lib.hid T2.out.nb
        have HCA := Lib.hid hcella
        have HCL := Lib.hid hcelll
        subst ea el
        clear T2 HOL HNL hsel hcella hcelll hga0 hgl0 hcam hclm
        generalize sel N s 256 = S at HCA HCL hSl h0 hca hcl ⊢
        go_wp2_with fail
        go_loopw [10] (fun i wr => ∃ t : Nat, t ≤ S.length ∧ i = .int .i64 t ∧ Hid (Below w2.heap.size w2 wr)) (fun i _ => S.length - (intOf i).toNat)
        case atStart => exact ⟨0, by omega, rfl, Below.refl _ _⟩
        case round =>
          obtain ⟨t, ht, rfl, hb⟩ := hrel
          by_cases hlt : t < S.length
          · have hltz : (t : Int) < (S.length : Int) := by omega
            have hc1 := Lib.hid (HCL.out t hlt)
            have hc2 := Lib.hid (HCA.out t hlt)
            generalize S[t]! = y at hc1 hc2
            go_wp2_with fail
            refine wp_region_below (by kernel_rfl) (by kernel_rfl) ?_
            refine quiet_yes ?_ ?_ (fun x hx => ?_) ?_
            rotate_left
            · rfl
            · have c1 : x.cell? ⟨gl, t, none⟩ = some (.int .u8 (y : Nat)) := (hx.cell (p := ⟨gl, t, none⟩) (Nat.lt_of_lt_of_le hgl hb.out.size)).trans ((hb.out.cell (p := ⟨gl, t, none⟩) hgl).trans hc1.out)
              have c2 : x.cell? ⟨ga, t, none⟩ = some (.int .u8 (y : Nat)) := (hx.cell (p := ⟨ga, t, none⟩) (Nat.lt_of_lt_of_le hga hb.out.size)).trans ((hb.out.cell (p := ⟨ga, t, none⟩) hga).trans hc2.out)
              go_simp
              first | done | (with_reducible rfl) | rfl
            simp only [Act.put, List.setIfInBounds_toArray, List.set_cons_zero, List.set_cons_succ]
            refine quiet_yes ?_ ?_ (fun x hx => ?_) ?_
            rotate_left
            · rfl
            · have c1 : x.cell? ⟨gl, t, none⟩ = some (.int .u8 (y : Nat)) := (hx.cell (p := ⟨gl, t, none⟩) (Nat.lt_of_lt_of_le hgl hb.out.size)).trans ((hb.out.cell (p := ⟨gl, t, none⟩) hgl).trans hc1.out)
              have c2 : x.cell? ⟨ga, t, none⟩ = some (.int .u8 (y : Nat)) := (hx.cell (p := ⟨ga, t, none⟩) (Nat.lt_of_lt_of_le hga hb.out.size)).trans ((hb.out.cell (p := ⟨ga, t, none⟩) hga).trans hc2.out)
              go_simp
              first | done | (with_reducible rfl) | rfl
            simp only [Act.put, List.setIfInBounds_toArray, List.set_cons_zero, List.set_cons_succ]
            refine quiet_yes ?_ ?_ (fun x hx => ?_) ?_
            rotate_left
            · rfl
            · have c1 : x.cell? ⟨gl, t, none⟩ = some (.int .u8 (y : Nat)) := (hx.cell (p := ⟨gl, t, none⟩) (Nat.lt_of_lt_of_le hgl hb.out.size)).trans ((hb.out.cell (p := ⟨gl, t, none⟩) hgl).trans hc1.out)
              have c2 : x.cell? ⟨ga, t, none⟩ = some (.int .u8 (y : Nat)) := (hx.cell (p := ⟨ga, t, none⟩) (Nat.lt_of_lt_of_le hga hb.out.size)).trans ((hb.out.cell (p := ⟨ga, t, none⟩) hga).trans hc2.out)
              go_simp
              first | done | (with_reducible rfl) | rfl
            simp only [Act.put, List.setIfInBounds_toArray, List.set_cons_zero, List.set_cons_succ]
            refine quiet_yes ?_ ?_ (fun x hx => ?_) ?_
            rotate_left
            · rfl
            · have c1 : x.cell? ⟨gl, t, none⟩ = some (.int .u8 (y : Nat)) := (hx.cell (p := ⟨gl, t, none⟩) (Nat.lt_of_lt_of_le hgl hb.out.size)).trans ((hb.out.cell (p := ⟨gl, t, none⟩) hgl).trans hc1.out)
              have c2 : x.cell? ⟨ga, t, none⟩ = some (.int .u8 (y : Nat)) := (hx.cell (p := ⟨ga, t, none⟩) (Nat.lt_of_lt_of_le hga hb.out.size)).trans ((hb.out.cell (p := ⟨ga, t, none⟩) hga).trans hc2.out)
              go_simp
              first | done | (with_reducible rfl) | rfl
            simp only [Act.put, List.setIfInBounds_toArray, List.set_cons_zero, List.set_cons_succ]
            refine quiet_yes ?_ ?_ (fun x hx => ?_) ?_
            rotate_left
            · rfl
            · have c1 : x.cell? ⟨gl, t, none⟩ = some (.int .u8 (y : Nat)) := (hx.cell (p := ⟨gl, t, none⟩) (Nat.lt_of_lt_of_le hgl hb.out.size)).trans ((hb.out.cell (p := ⟨gl, t, none⟩) hgl).trans hc1.out)
              have c2 : x.cell? ⟨ga, t, none⟩ = some (.int .u8 (y : Nat)) := (hx.cell (p := ⟨ga, t, none⟩) (Nat.lt_of_lt_of_le hga hb.out.size)).trans ((hb.out.cell (p := ⟨ga, t, none⟩) hga).trans hc2.out)
              go_simp
              first | done | (with_reducible rfl) | rfl
            simp only [Act.put, List.setIfInBounds_toArray, List.set_cons_zero, List.set_cons_succ]
            refine quiet_yes ?_ ?_ (fun x hx => ?_) ?_
            rotate_left
            · rfl
            · have c1 : x.cell? ⟨gl, t, none⟩ = some (.int .u8 (y : Nat)) := (hx.cell (p := ⟨gl, t, none⟩) (Nat.lt_of_lt_of_le hgl hb.out.size)).trans ((hb.out.cell (p := ⟨gl, t, none⟩) hgl).trans hc1.out)
              have c2 : x.cell? ⟨ga, t, none⟩ = some (.int .u8 (y : Nat)) := (hx.cell (p := ⟨ga, t, none⟩) (Nat.lt_of_lt_of_le hga hb.out.size)).trans ((hb.out.cell (p := ⟨ga, t, none⟩) hga).trans hc2.out)
              go_simp
              first | done | (with_reducible rfl) | rfl
            simp only [Act.put, List.setIfInBounds_toArray, List.set_cons_zero, List.set_cons_succ]
            refine quiet_yes ?_ ?_ (fun x hx => ?_) ?_
            rotate_left
            · rfl
            · have c1 : x.cell? ⟨gl, t, none⟩ = some (.int .u8 (y : Nat)) := (hx.cell (p := ⟨gl, t, none⟩) (Nat.lt_of_lt_of_le hgl hb.out.size)).trans ((hb.out.cell (p := ⟨gl, t, none⟩) hgl).trans hc1.out)
              have c2 : x.cell? ⟨ga, t, none⟩ = some (.int .u8 (y : Nat)) := (hx.cell (p := ⟨ga, t, none⟩) (Nat.lt_of_lt_of_le hga hb.out.size)).trans ((hb.out.cell (p := ⟨ga, t, none⟩) hga).trans hc2.out)
              go_simp
              first | done | (with_reducible rfl) | rfl
            simp only [Act.put, List.setIfInBounds_toArray, List.set_cons_zero, List.set_cons_succ]
            refine quiet_yes ?_ ?_ (fun x hx => ?_) ?_
            rotate_left
            · rfl
            · have c1 : x.cell? ⟨gl, t, none⟩ = some (.int .u8 (y : Nat)) := (hx.cell (p := ⟨gl, t, none⟩) (Nat.lt_of_lt_of_le hgl hb.out.size)).trans ((hb.out.cell (p := ⟨gl, t, none⟩) hgl).trans hc1.out)
              have c2 : x.cell? ⟨ga, t, none⟩ = some (.int .u8 (y : Nat)) := (hx.cell (p := ⟨ga, t, none⟩) (Nat.lt_of_lt_of_le hga hb.out.size)).trans ((hb.out.cell (p := ⟨ga, t, none⟩) hga).trans hc2.out)
              go_simp
              first | done | (with_reducible rfl) | rfl
            simp only [Act.put, List.setIfInBounds_toArray, List.set_cons_zero, List.set_cons_succ]
            refine quiet_yes ?_ ?_ (fun x hx => ?_) ?_
            rotate_left
            · rfl
            · have c1 : x.cell? ⟨gl, t, none⟩ = some (.int .u8 (y : Nat)) := (hx.cell (p := ⟨gl, t, none⟩) (Nat.lt_of_lt_of_le hgl hb.out.size)).trans ((hb.out.cell (p := ⟨gl, t, none⟩) hgl).trans hc1.out)
              have c2 : x.cell? ⟨ga, t, none⟩ = some (.int .u8 (y : Nat)) := (hx.cell (p := ⟨ga, t, none⟩) (Nat.lt_of_lt_of_le hga hb.out.size)).trans ((hb.out.cell (p := ⟨ga, t, none⟩) hga).trans hc2.out)
              go_simp
              first | done | (with_reducible rfl) | rfl
            simp only [Act.put, List.setIfInBounds_toArray, List.set_cons_zero, List.set_cons_succ]
            refine wpQuiet_nil ?_
            intro x hx
            have hb2 := Lib.hid (below_call hb.out hx)
            clear hx hc1 hc2
            go_wp2_with fail
            go_roundw
            case rel => exact ⟨t + 1, by omega, by go_num, hb2⟩
            case measure => simp [intOf]; omega
          · obtain rfl : t = S.length := by omega
            have HT2 := Lib.hid (below_call HT.out hb.out)
            have HOB2 := Lib.hid (owns_below HOB.out hb.out)
            clear hb HT HOB HCA HCL
            go_wp2_with fail
            by_cases hb0 : both N M L s md 256 = []
            · have eb := HNB.out hb0
              have HT := HT2
              have HB0 := Lib.hid hb0
              subst eb
              clear HOB2 HNB hb0 HT2
              have q5 := Q5.out _ (hm_below Hm.out hz HT.out)
              rw [show fnd (oG N R) (both N M L s md 256) = .tuple #[.int .u8 0, .int .i64 2] from if_pos HB0.out] at q5
              have Q5' := Lib.hid q5
              clear q5 HB0
              refine Q5'.out.mono ?_
              rintro e w5 ⟨rfl, hb5⟩
              have G5 := Lib.hid (below_call HT.out hb5)
              clear hb5 Q5' HT
              go_wp2_with fail
              refine (long_all _ _ _ _ _ _ _).mono ?_
              rintro e w6 ⟨rfl, hb6⟩
              have G6 := Lib.hid (below_call G5.out hb6)
              clear hb6 G5
              go_wp2_with fail
              refine (rlong_any _ _).mono ?_
              rintro e w7 ⟨rfl, rfl⟩
              go_wp2_with fail
              refine (Q2.out _ (hm_below Hm.out hz G6.out)).mono ?_
              rintro e w8 ⟨rfl, hb8⟩
              go_wp2
              go_ret
              exact ⟨rfl, below_call G6.out hb8⟩
            · have hf0 : 0 < (both N M L s md 256).length := List.length_pos_iff.2 hb0
              obtain ⟨gf, cf, ef, _, hgf, hcf, _, hcellf⟩ := owns_some HOB2.out rfl hf0
              have HF : Hid (∀ x, x ∈ both N M L s md 256 → x < 256) := fun x hx => both_lt hx
              have hFl := both_le N M L s md 256
              have hfn : fnd (oG N R) (both N M L s md 256) = .tuple #[.int .u8 (best (oG N R) (both N M L s md 256) : Nat), .int .i64 0] := if_neg hb0
              have q5 := Q5.out _ (hm_below Hm.out hz HT2.out)
              rw [hfn] at q5
              have Q5' := Lib.hid q5
              have HCF := Lib.hid hcellf
              subst ef
              clear q5 hfn hcellf HOB2 HNB hb0
              generalize both N M L s md 256 = F at Q5' HCF HF hFl hf0 hcf ⊢
              obtain ⟨B, HBB⟩ : ∃ B, Hid (best (oG N R) F = B) := ⟨_, rfl⟩
              rw [HBB.out] at Q5'
              refine Q5'.out.mono ?_
              rintro e w5 ⟨rfl, hb5⟩
              have G5 := Lib.hid (below_call HT2.out hb5)
              have H5 := Lib.hid hb5
              clear hb5 Q5'
              go_wp2_with fail
              refine (long_all _ _ _ _ _ _ _).mono ?_
              rintro e w6 ⟨rfl, hb6⟩
              have G6 := Lib.hid (below_call G5.out hb6)
              have H6 := Lib.hid (below_call H5.out hb6)
              clear hb6 H5 G5
              go_wp2_with fail
              refine (rlong_any _ _).mono ?_
              rintro e w7 ⟨rfl, rfl⟩
              have c0 : w7.cell? ⟨gf, 0, none⟩ = some (.int .u8 (F[0]! : Nat)) := (H6.out.cell (p := ⟨gf, 0, none⟩) hgf).trans (HCF.out 0 hf0)
              obtain ⟨y0, HY0⟩ : ∃ y0, Hid (F[0]! = y0) := ⟨_, rfl⟩
              rw [HY0.out] at c0
              have hlz : ((F.length : Int) == 0) = false := by
                rw [beq_eq_false_iff_ne]
                omega
              go_wp2_with fail
              go_loopw [13, 14] (fun bst i wr => ∃ t : Nat, t ≤ F.length ∧ i = .int .i64 ((t : Int) - 1) ∧ bst = .int .u8 (tail (oG N R) F t : Nat) ∧ Hid (Below w7.heap.size w7 wr)) (fun _ i _ => (intOf i + 1).toNat)
              case atStart => exact ⟨F.length, by omega, rfl, by rw [tail_end, HY0.out], Below.refl _ _⟩
              case round =>
                obtain ⟨t, ht, rfl, rfl, hb⟩ := hrel
                by_cases ht0 : t = 0
                · subst ht0
                  have e0 : tail (oG N R) F 0 = B := HBB.out
                  rw [e0]
                  have G7 := Lib.hid (below_call G6.out hb.out)
                  clear e0 hb c0
                  go_wp2_with fail
                  refine (Q2.out _ (hm_below Hm.out hz G7.out)).mono ?_
                  rintro e w8 ⟨rfl, hb8⟩
                  go_wp2
                  go_ret
                  exact ⟨rfl, below_call G7.out hb8⟩
                · obtain ⟨t', rfl⟩ : ∃ t', t = t' + 1 := ⟨t - 1, by omega⟩
                  have et : (((t' + 1 : Nat) : Int) - 1) = (t' : Int) := by omega
                  have hgz : gf < w7.heap.size := Nat.lt_of_lt_of_le hgf H6.out.size
                  have c1 : w7.cell? ⟨gf, t', none⟩ = some (.int .u8 (F[t']! : Nat)) := (H6.out.cell (p := ⟨gf, t', none⟩) hgf).trans (HCF.out t' (by omega))
                  have c2 := (hb.out.cell (p := ⟨gf, t', none⟩) hgz).trans c1
                  have hmem : F[t']! < 256 := HF.out _ (by rw [getElem!_pos F t' (by omega)]; exact List.getElem_mem _)
                  have hty := fun (h : oG N R F[t']! = true) => tail_yes (p := oG N R) (F := F) (t := t') (by omega) h
                  have htn := fun (h : oG N R F[t']! = false) => tail_no (p := oG N R) (F := F) (t := t') (by omega) h
                  generalize F[t']! = y at c1 c2 hmem hty htn
                  have HTY := Lib.hid hty
                  have HTN := Lib.hid htn
                  have C1 := Lib.hid c1
                  have hmem2 := Lib.hid hmem
                  have hlt : t' < F.length := by omega
                  clear hty htn c1 hmem c0
                  rw [et]
                  go_wp2_with fail
                  refine (Q3.out y hmem2.out _).mono ?_
                  rintro e w8 ⟨rfl, hb8⟩
                  have hfd := fld5 (oS N y) (oM M L y) (oU N M L y) (oC N M L y) (oX N M L y) (oG N R y)
                  have hb9 := Lib.hid (below_call hb.out hb8)
                  have c3 : w8.cell? ⟨gf, t', none⟩ = some (.int .u8 (y : Nat)) := (hb9.out.cell (p := ⟨gf, t', none⟩) hgz).trans C1.out
                  clear hb8 hb c2
                  cases hp : oG N R y with
                  | true =>
                    have e1 := Lib.hid (HTY.out hp)
                    rw [hp] at hfd
                    clear hp HTY HTN
                    go_wp2_with fail
                    go_roundw
                    case rel => exact ⟨t', by omega, rfl, by rw [e1.out], hb9⟩
                    case measure => simp [intOf]
                  | false =>
                    have e1 := Lib.hid (HTN.out hp)
                    rw [hp] at hfd
                    clear hp HTY HTN
                    go_wp2_with fail
                    go_roundw
                    case rel => exact ⟨t', by omega, rfl, by rw [e1.out], hb9⟩
                    case measure => simp [intOf]

set_option maxRecDepth 100000 in
theorem lifted (os : Os) (started : os.Started) (H : Type) (enc : TypeId × Value → H) :
    ReturnsInHanded {} Try.checked os 7 .any (Rows.opcodeFindsSpec.pre6 enc Try.prog Try.f7 Rows.opcodeFindsRow.domain false) (Rows.opcodeFindsSpec.post enc Try.prog Try.f7 false true false false) := by
  refine returnsInHanded_of_change_shaped (C := Try.checked) own started (by kernel_rfl) Try.func7
    (ChangeSpec.witness6 (enc := enc) (C := Try.checked) false ⟨#[], #[.string ⟨#[]⟩, .int .i64 0], []⟩ 8 (by kernel_rfl) (by kernel_rfl) (by kernel_rfl) (by kernel_rfl)) ?_
  intro W base args ds gs before hval0 hW hcnd _ hsh _
  have hval : ∀ (j : Nat) t v, Try.f7.params[j]? = some t → args[j]? = some v → Value.okWide Try.prog W .any base t v := hval0
  have hW' := hW
  obtain ⟨p, q, hA0, hV, rfl, hfz, hnd⟩ := hW
  have hA : DataW.TrodAll enc Try.prog W 0 (fun _ => true) true Try.f7.params.toList args.toList ds p := hA0
  rw [Try.params7] at hA hval
  obtain ⟨v0, vs0, d0, ds0, p0, q0, hargs, rfl, rfl, h0, r0⟩ := trodAll_cons hA
  obtain ⟨v1, vs1, d1, ds1, p1, q1, rfl, rfl, rfl, h1, r1⟩ := trodAll_cons r0
  obtain ⟨rfl, rfl, rfl⟩ := trodAll_nil r1
  obtain rfl : args = #[v0, v1] := by cases args; simp_all
  obtain ⟨rfl, rfl⟩ := trodVars_none hV
  obtain ⟨s, rfl, rfl, rfl, w_s⟩ := Go.ChangeMaps.open_string Try.underlying9 (hval 0 9 v0 rfl rfl) h0
  obtain ⟨md, rfl, rfl, rfl, w_md⟩ := open_int Try.underlying3 (hval 1 3 v1 rfl rfl) h1
  clear hA0 hval0
  simp only [List.append_nil] at hW'
  obtain ⟨k, hk⟩ := Try.laysM219.s1_3 W hsh
  refine (walk s md k W hk).mono fun e W' ⟨he, hg⟩ => ?_
  subst he
  exact ⟨_, rfl, _, _, _, [], _, [], hW', trodAll_mk1 (shut_bool Try.underlying4 _), (trodAll_cons_mk (Go.ChangeMaps.shut_string Try.underlying9 w_s) (trodAll_cons_mk (shut_int Try.underlying3 w_md) trodAll_mk0)), rfl, hg.frame _, fun h => by cases h⟩

theorem over : Rows.opcodeFindsRow.holds Try.pinned (OpenSpec.ofChange Rows.opcodeFindsSpec) :=
  OpenClaim.holds_of_wide 7 Try.f7 rfl rfl rfl rfl rfl rfl rfl ⟨rfl, rfl, rfl, rfl, rfl⟩ rfl rfl rfl rfl rfl (by kernel_rfl) Try.func7 (by kernel_rfl)
    (of_decide_eq_true (by kernel_rfl)) (by unfold Func.isWrapper; first | (rw [if_pos (by decide +kernel)]; kernel_rfl) | (rw [if_neg (by decide +kernel)]; exact ⟨rfl, rfl⟩))
    (fun os started H enc _ => lifted os started H enc)

/-- THE STATEMENT -/
theorem proved : Rows.OpcodeFindsSaid :=
  over
#print axioms proved
end Go.Proofs.Ytbekiknbjpdchaa.opcodeFinds
