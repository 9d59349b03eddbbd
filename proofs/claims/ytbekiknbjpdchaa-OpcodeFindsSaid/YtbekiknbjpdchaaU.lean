/- The contract of package opcode's Find: the opcode of a name and a mode. -/
import Derived.Test.YtbekiknbjpdchaaT
namespace Go.Proofs.Ytbekiknbjpdchaa
open Go.ChangeShapes Go.WideShapes Go.ChangeAt Go.RowKit
set_option linter.unusedVariables false
/-- the opcodes of a name and a mode -/
def both (N M L s : ByteArray) (md : Int) (n : Nat) : List Nat := (sel N s n).filter (fun i => !(oM M L i != md))
/-- the first of which p holds, else the first -/
def best (p : Nat → Bool) (F : List Nat) : Nat := (F.find? p).getD F[0]!
theorem best_none {p : Nat → Bool} {F : List Nat} (h : ∀ j, j < F.length → p F[j]! = false) : best p F = F[0]! := by
  have e : F.find? p = none := by
    rw [List.find?_eq_none]
    intro x hx
    obtain ⟨j, hj, rfl⟩ := List.getElem_of_mem hx
    have := h j hj
    rw [getElem!_pos F j hj] at this
    rw [this]
    decide
  unfold best
  rw [e]
  rfl
theorem best_at {p : Nat → Bool} {F : List Nat} {k : Nat} (hk : k < F.length) (h : p F[k]! = true) (ha : ∀ j, j < k → p F[j]! = false) : best p F = F[k]! := by
  have e : F.find? p = some F[k]! := by
    rw [List.find?_eq_some_iff_getElem]
    refine ⟨h, k, hk, by rw [getElem!_pos F k hk], fun j hj => ?_⟩
    have := ha j hj
    rw [getElem!_pos F j (by omega)] at this
    rw [this]
    rfl
  unfold best
  rw [e]
  rfl
theorem both_lt {N M L s : ByteArray} {md : Int} {n i : Nat} (h : i ∈ both N M L s md n) : i < n := sel_lt (List.mem_filter.1 h).1
theorem both_le (N M L s : ByteArray) (md : Int) (n : Nat) : (both N M L s md n).length ≤ n := Nat.le_trans (List.length_filter_le _ _) (sel_le N s n)
theorem owned_cells {w : World} {g cap n base : Nat} {zs : List Nat} (h : w.ownsRow base 5 1 (.slice (some ⟨g, 0, none⟩) n cap) n (zs.map val)) (hn : zs.length = n) : ∀ j, j < n → w.cell? ⟨g, j, none⟩ = some (.int .u8 (zs[j]! : Nat)) := by
  intro j hj
  rcases h.2 with ⟨h1, _⟩ | ⟨gb, cap', cs, h1, _, hh, _, _, _, ht⟩
  · cases h1
  · injection h1 with h1 h2 h3
    injection h1 with h1
    injection h1 with h1
    subst h1
    rw [cells_of hh j]
    rw [Nat.mul_one] at ht
    exact row_at ht hn hj
/-- what Find tells -/
def fnd (p : Nat → Bool) (F : List Nat) : Value := if F = [] then .tuple #[.int .u8 0, .int .i64 2] else .tuple #[.int .u8 (best p F : Nat), .int .i64 0]
theorem eg26 : ∀ args w, (callFunc 26 args).run Try.prog w = .ok (.enter 26 args) w := enters_of Try.func26 (by kernel_rfl) rfl
theorem eg28 : ∀ args w, (callFunc 28 args).run Try.prog w = .ok (.enter 28 args) w := enters_of Try.func28 (by kernel_rfl) rfl
set_option maxHeartbeats 4000000 in
set_option maxRecDepth 1000000 in
theorem find_any (N M L R : ByteArray) (hN : tableAt Try.f8 0 = N) (hM : tableAt Try.f8 1 = M) (hL : tableAt Try.f8 2 = L) (hR : tableAt Try.f8 3 = R) (k md : Int) (s : ByteArray) (w : World) (hm : w.cell? ⟨0, 0, none⟩ = some (.int .i64 k)) :
    Calls Try.prog 14 #[.string s, .int .i64 md] w fun e w' => e = .returned (fnd (oG N R) (both N M L s md 256)) ∧ Below w.heap.size w w' := by
  have Q1 := Lib.hid (fun W h => all_any N M L R hN hM hL hR k s W h)
  have Q2 := Lib.hid (fun B i h1 W hm hB => other_any N M L R hN hM hL hR k md B i h1 W hm hB)
  have Q3 := Lib.hid (fun i h1 W hm => good_any N M L R hN hM hL hR k i h1 W hm)
  have Hm := Lib.hid hm
  have hz := cell_lt hm
  clear hN hM hL hR hm
  have HF : Hid (∀ x, x ∈ both N M L s md 256 → x < 256) := fun x hx => both_lt hx
  have hFl : (both N M L s md 256).length ≤ 256 := both_le N M L s md 256
  generalize hFe : both N M L s md 256 = F at HF hFl ⊢
  have HFe := Lib.hid hFe
  clear hFe
  have hB0 : (w.alloc (.cells #[.int .i64 md] 3)).cell? ⟨w.heap.size, 0, none⟩ = some (.int .i64 md) := by
    rw [cells_of (heap_alloc_new w (.cells #[.int .i64 md] 3)) 0]
    rfl
  have hS0 : (w.alloc (.cells #[.int .i64 md] 3)).heap.size = w.heap.size + 1 := World.size_alloc _ _
  have hG0 : Below w.heap.size w (w.alloc (.cells #[.int .i64 md] 3)) := (Below.refl _ _).alloc (Nat.le_refl _) _
  have HB0 := Lib.hid hB0
  have HS0 := Lib.hid hS0
  have HG0 := Lib.hid hG0
  clear hB0 hS0 hG0
  go_enter Try.func14, Try.ntmps14
  go_wp2_with fail
  generalize w.alloc (.cells #[.int .i64 md] 3) = w0 at HB0 HS0 HG0 ⊢
  have HM0 := Lib.hid (hm_below Hm.out hz HG0.out)
  refine (Q1.out _ HM0.out).mono ?_
  rintro e w1 ⟨v, rfl, ho, hb, _⟩
  have hz0 : 0 < w0.heap.size := by rw [HS0.out]; omega
  have HM1 := Lib.hid (hm_below HM0.out hz0 hb)
  have HB1 := Lib.hid (show w1.cell? ⟨w.heap.size, 0, none⟩ = some (.int .i64 md) from (hb.cell (p := ⟨w.heap.size, 0, none⟩) (by rw [HS0.out]; exact Nat.lt_succ_self _)).trans HB0.out)
  have HG1 := Lib.hid (below_call HG0.out hb)
  have HO1 := Lib.hid ho
  have hsz1 : w0.heap.size ≤ w1.heap.size := hb.size
  have HD := Lib.hid (delete_any (fun i => oM M L i != md) 26 #[.pointer (some ⟨w.heap.size, 0, none⟩)] eg26 w0.heap.size (sel N s 256) (fun x hx => sel_lt hx) (sel_le N s 256) v w1 ho (fun W i h1 hg => Q2.out w.heap.size i h1 W
    (hg.cell HM1.out (fun q => by have := (ho.lt 0 q.symm).1; omega))
    (hg.cell HB1.out (fun q => by have := (ho.lt _ q.symm).1; rw [HS0.out] at this; exact absurd this (Nat.not_succ_le_self _)))))
  have HR1 := Lib.hid (fun w2 (hg2 : w1.grownBy w2 v.ownBlock) => (show Below w.heap.size w w2 from HG1.out.grown hg2 (by rw [HS0.out] at hsz1; omega) (fun j hj => by have := (ho.lt j hj).1; rw [HS0.out] at this; omega)))
  have HM2 := Lib.hid (fun w2 (hg2 : w1.grownBy w2 v.ownBlock) => (show w2.cell? ⟨0, 0, none⟩ = some (.int .i64 k) from hg2.cell HM1.out (fun q => by have := (ho.lt 0 q.symm).1; omega)))
  clear ho hb hsz1 hz0 HO1 HB1 HM1 HG1 HM0 HG0 HB0
  go_wp2_with fail
  refine HD.out.mono ?_
  rintro e w2 ⟨v', rfl, ho2, hg2⟩
  have HG := Lib.hid (HR1.out w2 hg2)
  have HM := Lib.hid (HM2.out w2 hg2)
  have HO2 : Hid (w2.ownsRow w0.heap.size 5 1 v' F.length (F.map val)) := by
    rw [← HFe.out]
    exact ho2
  clear ho2 hg2 HR1 HM2 HD Q1 Q2 HFe
  rcases HO2.out.2 with ⟨rfl, h0⟩ | ⟨gb, cap, cs, rfl, hbg, hheap, hnc, hcm, hcs, htake⟩
  · have hnil : F = [] := List.length_eq_zero_iff.1 h0
    subst hnil
    clear HO2 h0 hFl HF
    go_wp2
    go_ret2
    exact ⟨rfl, HG.out⟩
  · by_cases h0 : F.length = 0
    · have hnil : F = [] := List.length_eq_zero_iff.1 h0
      subst hnil
      clear HO2 h0 hFl HF hheap htake hcs
      go_wp2
      go_ret2
      exact ⟨rfl, HG.out⟩
    · have hgb : gb < w2.heap.size := (Array.getElem?_eq_some_iff.1 hheap).1
      have hc := owned_cells HO2.out rfl
      have hI := index_any (oG N R) 28 #[] eg28 gb F.length cap F rfl HF.out w2 hgb (fun W i h hb => Q3.out i h W (hm_below HM.out (by have := cell_lt HM.out; omega) hb)) (by omega) hc
      have hne : ¬ F = [] := fun q => h0 (by rw [q]; rfl)
      have hfn : fnd (oG N R) F = .tuple #[.int .u8 (best (oG N R) F : Nat), .int .i64 0] := if_neg hne
      have HFN := Lib.hid hfn
      have HC := Lib.hid hc
      clear HO2 hheap htake hcs hfn hc hne
      rcases first_or (fun j => oG N R F[j]!) F.length with hall | ⟨t, ht, hpt, hbefore⟩
      · have e1 := Lib.idxBy_miss (fun _ y => oG N R y) F F.length 0 hall
        rw [List.take_length] at e1
        rw [e1] at hI
        have hb := best_none hall
        have HI := Lib.hid hI
        have HBE := Lib.hid hb
        clear hI e1 hall hb
        go_wp2_with fail
        refine HI.out.mono ?_
        rintro e w3 ⟨rfl, hb3⟩
        have c0 : w3.cell? ⟨gb, 0, none⟩ = some (.int .u8 (F[0]! : Nat)) := (hb3.cell (p := ⟨gb, 0, none⟩) hgb).trans (HC.out 0 (by omega))
        have HG3 := Lib.hid (below_call HG.out hb3)
        clear hb3
        generalize hy : F[0]! = y at c0
        have HY := Lib.hid hy
        clear hy
        have hmx : max (-1 : Int) 0 = 0 := by decide
        go_wp2
        go_ret2
        exact ⟨by rw [HFN.out, HBE.out, HY.out]; rfl, HG3.out⟩
      · have e1 := Lib.idxBy_hit (fun _ y => oG N R y) F F.length t 0 ht (Nat.le_refl _) hpt hbefore
        rw [List.take_length] at e1
        rw [e1] at hI
        have hb := best_at ht hpt hbefore
        have HI := Lib.hid hI
        have HBE := Lib.hid hb
        clear hI e1 hpt hbefore hb
        go_wp2_with fail
        refine HI.out.mono ?_
        rintro e w3 ⟨rfl, hb3⟩
        have c0 : w3.cell? ⟨gb, t, none⟩ = some (.int .u8 (F[t]! : Nat)) := (hb3.cell (p := ⟨gb, t, none⟩) hgb).trans (HC.out t ht)
        have HG3 := Lib.hid (below_call HG.out hb3)
        clear hb3
        generalize hy : F[t]! = y at c0
        have HY := Lib.hid hy
        clear hy
        have hmx : max (t : Int) 0 = t := by omega
        go_wp2
        go_ret2
        exact ⟨by rw [HFN.out, HBE.out, HY.out]; rfl, HG3.out⟩
end Go.Proofs.Ytbekiknbjpdchaa
