/- The contracts of Find's two closures, and of slices.IndexFunc over a predicate that may lay blocks of its own. -/
import Derived.Test.YtbekiknbjpdchaaO
import Derived.Lib.SlBy
import Derived.Deep.LoopGhost
namespace Go.Proofs.Ytbekiknbjpdchaa
open Go.ChangeShapes Go.WideShapes Go.ChangeAt Go.RowKit
set_option linter.unusedVariables false
set_option maxRecDepth 100000 in
set_option maxHeartbeats 2000000 in
theorem other_any (N M L R : ByteArray) (hN : tableAt Try.f8 0 = N) (hM : tableAt Try.f8 1 = M) (hL : tableAt Try.f8 2 = L) (hR : tableAt Try.f8 3 = R) (k md : Int) (B i : Nat) (h1 : i < 256) (w : World) (hm : w.cell? ⟨0, 0, none⟩ = some (.int .i64 k)) (hB : w.cell? ⟨B, 0, none⟩ = some (.int .i64 md)) :
    Calls Try.prog 26 #[.int .u8 i, .pointer (some ⟨B, 0, none⟩)] w fun e w' => e = .returned (.bool (oM M L i != md)) ∧ Below w.heap.size w w' := by
  have Q1 := Lib.hid (fun W hm => decode_any i h1 N M L R hN hM hL hR k W hm)
  have Hm := Lib.hid hm
  have hz := cell_lt hm
  have hlt : B < w.heap.size := by
    rcases Nat.lt_or_ge B w.heap.size with q | q
    · exact q
    · have hn : w.heap[B]? = none := Array.getElem?_eq_none (by omega)
      simp [World.cell?, hn] at hB
  have HB := Lib.hid hB
  clear hN hM hL hR hm hB
  have HQ := Lib.hid (fun y (hy : Below w.heap.size w y) => Q1.out y (hm_below Hm.out hz hy))
  generalize oM M L i = m at HQ ⊢
  generalize oU N M L i = u at HQ
  generalize oC N M L i = c at HQ
  generalize oX N M L i = x at HQ
  generalize oG N R i = g at HQ
  generalize oS N i = s at HQ
  clear Q1
  go_enter Try.func26, Try.ntmps26
  go_wp2_with fail
  refine wp_region_below (by kernel_rfl) (by kernel_rfl) ?_
  refine quiet_yes ?_ ?_ (fun y hy => ?_) ?_
  rotate_left
  · rfl
  · go_simp
    first | done | (with_reducible rfl) | rfl
  simp only [Act.put, List.setIfInBounds_toArray, List.set_cons_zero, List.set_cons_succ]
  refine quiet_yes ?_ ?_ (fun y hy => ?_) ?_
  rotate_left
  · rfl
  · go_simp
    (have q := below_in hy (HQ.out y hy); exact q)
  simp only [Act.put, List.setIfInBounds_toArray, List.set_cons_zero, List.set_cons_succ]
  refine quiet_yes ?_ ?_ (fun y hy => ?_) ?_
  rotate_left
  · rfl
  · have hfd := fld1 s m u c x g
    go_simp
    first | done | (with_reducible rfl) | rfl
  simp only [Act.put, List.setIfInBounds_toArray, List.set_cons_zero, List.set_cons_succ]
  refine quiet_yes ?_ ?_ (fun y hy => ?_) ?_
  rotate_left
  · rfl
  · have l1 : y.cell? ⟨B, 0, none⟩ = some (.int .i64 md) := (hy.cell (p := ⟨B, 0, none⟩) hlt).trans HB.out
    go_simp
    first | done | (with_reducible rfl) | rfl
  simp only [Act.put, List.setIfInBounds_toArray, List.set_cons_zero, List.set_cons_succ]
  refine quiet_yes ?_ ?_ (fun y hy => ?_) ?_
  rotate_left
  · rfl
  · go_simp
    first | done | (with_reducible rfl) | rfl
  simp only [Act.put, List.setIfInBounds_toArray, List.set_cons_zero, List.set_cons_succ]
  refine quiet_yes ?_ ?_ (fun y hy => ?_) ?_
  rotate_left
  · rfl
  · go_simp
    first | done | (with_reducible rfl) | rfl
  simp only [Act.put, List.setIfInBounds_toArray, List.set_cons_zero, List.set_cons_succ]
  refine wpQuiet_nil ?_
  intro y hy
  go_wp2
  go_ret
  exact ⟨rfl, hy⟩
theorem good_any (N M L R : ByteArray) (hN : tableAt Try.f8 0 = N) (hM : tableAt Try.f8 1 = M) (hL : tableAt Try.f8 2 = L) (hR : tableAt Try.f8 3 = R) (k : Int) (i : Nat) (h1 : i < 256) (w : World) (hm : w.cell? ⟨0, 0, none⟩ = some (.int .i64 k)) :
    Calls Try.prog 28 #[.int .u8 i] w fun e w' => e = .returned (.bool (oG N R i)) ∧ Below w.heap.size w w' := by
  have Q1 := Lib.hid (decode_any i h1 N M L R hN hM hL hR k w hm)
  clear hN hM hL hR hm
  go_enter Try.func28, Try.ntmps28
  go_wp2_with fail
  refine Q1.out.mono ?_
  rintro e w1 ⟨rfl, z⟩
  have hfd := fld5 (oS N i) (oM M L i) (oU N M L i) (oC N M L i) (oX N M L i) (oG N R i)
  go_wp2
  go_ret
  exact ⟨rfl, z⟩
set_option maxHeartbeats 2000000 in
/-- slices.IndexFunc on a slice whose cells are known: the place of the first element of which p holds, or -1. -/
theorem index_any (p : Nat → Bool) (g : Nat) (lb : Array Value) (eg : ∀ args w, (callFunc g args).run Try.prog w = .ok (.enter g args) w) (b n c : Nat) (zs : List Nat) (hn : zs.length = n) (hz : ∀ x ∈ zs, x < 256) (w : World) (hb : b < w.heap.size)
    (hp : ∀ W i, i < 256 → Below w.heap.size w W → Calls Try.prog g (#[.int .u8 i] ++ lb) W fun e w' => e = .returned (.bool (p i)) ∧ Below W.heap.size W w') (hbig : n ≤ 9223372036854775807)
    (hc : ∀ j, j < n → w.cell? ⟨b, j, none⟩ = some (.int .u8 (zs[j]! : Nat))) :
    Calls Try.prog 27 #[.slice (some ⟨b, 0, none⟩) n c, .func (.func g) #[] lb] w fun e w' => e = .returned (.int .i64 (Lib.idxBy (fun _ y => p y) zs 0)) ∧ Below w.heap.size w w' := by
  have HP := Lib.hid hp
  have HC := Lib.hid hc
  clear hp hc
  go_enter Try.func27, Try.ntmps27
  go_wp2
  go_loopg [5, 8] n (fun gg _ s8 wr => ∃ kk : Nat, kk ≤ n ∧ n - kk ≤ gg ∧ s8 = .int .i64 kk ∧ Hid (Below w.heap.size w wr) ∧ Hid (∀ j, j < kk → p zs[j]! = false))
  case atStart => exact ⟨0, Nat.zero_le _, by omega, rfl, Below.refl _ w, fun j hj => absurd hj (Nat.not_lt_zero _)⟩
  case round =>
    obtain ⟨kk, hkk, hg, rfl, BW, A⟩ := hrel
    by_cases hlt : kk < n
    · have hltz : (kk : Int) < (n : Int) := by omega
      have l2 : wr.cell? ⟨b, kk, none⟩ = some (.int .u8 (zs[kk]! : Nat)) := (BW.out.cell (p := ⟨b, kk, none⟩) hb).trans (HC.out kk hlt)
      have hmem : zs[kk]! < 256 := hz _ (by rw [getElem!_pos zs kk (by omega)]; exact List.getElem_mem _)
      have hcall := HP.out wr zs[kk]! hmem BW.out
      generalize hy : zs[kk]! = y at l2 hcall
      have HY := Lib.hid hy
      clear hy hmem
      cases hq : p y with
      | true =>
        rw [hq] at hcall
        have HL := Lib.hid hcall
        clear hcall
        go_wp2_with (go_at_fn g; refine HL.out.mono ?_; rintro e w' ⟨rfl, hb'⟩)
        go_ret
        refine ⟨?_, below_call BW.out hb'⟩
        have e1 := Lib.idxBy_hit (fun _ y => p y) zs n kk 0 hlt (by omega) (by show p zs[kk]! = true; rw [HY.out]; exact hq) A.out
        rw [List.take_of_length_le (by omega)] at e1
        rw [e1]
        rfl
      | false =>
        rw [hq] at hcall
        have HL := Lib.hid hcall
        clear hcall
        go_wp2_with (go_at_fn g; refine HL.out.mono ?_; rintro e w' ⟨rfl, hb'⟩; have hb2 := Lib.hid (below_call BW.out hb'); clear hb')
        go_roundg (n - (kk + 1))
        case measure => omega
        case rel =>
          refine ⟨kk + 1, by omega, by omega, by go_num, hb2, (show Hid _ from fun j hj => ?_)⟩
          by_cases e : j = kk
          · subst e
            rw [HY.out]; exact hq
          · exact A.out j (by omega)
    · have hltz : ¬ (kk : Int) < (n : Int) := by omega
      have : kk = n := by omega
      subst this
      go_wp2
      go_ret
      refine ⟨?_, BW.out⟩
      have e1 := Lib.idxBy_miss (fun _ y => p y) zs kk 0 A.out
      rw [List.take_of_length_le (by omega)] at e1
      rw [e1]
      rfl
end Go.Proofs.Ytbekiknbjpdchaa
