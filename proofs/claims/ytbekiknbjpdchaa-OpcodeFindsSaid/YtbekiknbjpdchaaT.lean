/- The contract of slices.DeleteFunc over a row of the call's own and a predicate that may lay blocks of its own. -/
import Derived.Test.YtbekiknbjpdchaaS
namespace Go.Proofs.Ytbekiknbjpdchaa
open Go.ChangeShapes Go.WideShapes Go.ChangeAt Go.RowKit
set_option linter.unusedVariables false
theorem index_nil (fv : Value) (w : World) : Calls Try.prog 27 #[.slice none 0 0, fv] w fun e w' => e = .returned (.int .i64 (-1)) ∧ w' = w := by
  go_enter Try.func27, Try.ntmps27
  go_wp2
  refine wp_loop_rounds 1 ?_
  rw [rounds_succ]
  go_wp2
  go_ret
  exact ⟨rfl, rfl⟩
theorem zero5 (w : World) : (zeroValue 5).run Try.prog w = .ok (.int .u8 0) w := by kernel_rfl
set_option maxHeartbeats 4000000 in
set_option maxRecDepth 1000000 in
theorem delete_any (p : Nat → Bool) (g : Nat) (lb : Array Value) (eg : ∀ args w, (callFunc g args).run Try.prog w = .ok (.enter g args) w) (base : Nat) (zs : List Nat) (hz : ∀ x ∈ zs, x < 256) (hbig : zs.length ≤ 256) (v : Value) (w : World)
    (hown : w.ownsRow base 5 1 v zs.length (zs.map val))
    (hp : ∀ W i, i < 256 → w.grownBy W v.ownBlock → Calls Try.prog g (#[.int .u8 i] ++ lb) W fun e w' => e = .returned (.bool (p i)) ∧ Below W.heap.size W w') :
    Calls Try.prog 25 #[v, .func (.func g) #[] lb] w fun e w' => ∃ v', e = .returned v' ∧ w'.ownsRow base 5 1 v' (zs.filter (fun x => !p x)).length ((zs.filter (fun x => !p x)).map val) ∧ w.grownBy w' v.ownBlock := by
  rcases hown.2 with ⟨rfl, h0⟩ | ⟨gb, cap, cs, rfl, hbg, hheap, hnc, hcm, hcs, htake⟩
  · have hnil : zs = [] := List.length_eq_zero_iff.1 h0
    subst hnil
    clear hown h0 hp hz hbig
    go_enter Try.func25, Try.ntmps25
    go_wp2_with fail
    refine (index_nil _ w).mono ?_
    rintro e w1 ⟨rfl, rfl⟩
    go_wp2
    go_ret
    exact ⟨_, rfl, World.ownsRow_nil _ _ _ _, below_grown (Below.refl _ _) _⟩
  · rw [Nat.mul_one] at hcs htake
    have hgb : gb < w.heap.size := (Array.getElem?_eq_some_iff.1 hheap).1
    have hI := index_any p g lb eg gb zs.length cap zs rfl hz w hgb (fun W i h hb => hp W i h (below_grown hb _)) (by omega) (fun j hj => by
      rw [cells_of hheap j]
      exact row_at htake rfl hj)
    rcases first_or (fun j => p zs[j]!) zs.length with hall | ⟨k, hk, hpk, hbefore⟩
    · have e1 := Lib.idxBy_miss (fun _ y => p y) zs zs.length 0 hall
      rw [List.take_length] at e1
      rw [e1] at hI
      have hf : zs.filter (fun x => !p x) = zs := by
        rw [← kept_end, kept_all (Nat.le_refl _) hall, List.take_length]
      have HI := Lib.hid hI
      have HO := Lib.hid hown
      clear hI hown hp hz hheap htake hall e1
      rw [hf]
      go_enter Try.func25, Try.ntmps25
      go_wp2_with fail
      refine HI.out.mono ?_
      rintro e w1 ⟨rfl, hb⟩
      go_wp2
      go_ret
      exact ⟨_, rfl, owns_below HO.out hb, below_grown hb _⟩
    · have e1 := Lib.idxBy_hit (fun _ y => p y) zs zs.length k 0 hk (Nat.le_refl _) hpk hbefore
      rw [List.take_length] at e1
      rw [e1] at hI
      have HI := Lib.hid hI
      have HP := Lib.hid hp
      have HS := Lib.hid (fun w1 hb => Del.start (w1 := w1) (cap := cap) hheap hcs hnc htake hb hk hpk hbefore)
      have HZ := Lib.hid hz
      have hne : ((k : Int) == -1) = false := beq_eq_false_iff_ne.2 (by omega)
      have hcap : cap ≤ 9223372036854775807 := by unfold maxLen at hcm; omega
      clear hI hown hp hz hheap htake hbefore e1 hpk
      obtain ⟨n, HN⟩ : ∃ n, Hid (zs.length = n) := ⟨_, rfl⟩
      rw [HN.out] at hbig hk hnc ⊢
      go_enter Try.func25, Try.ntmps25
      go_wp2_with fail
      rw [HN.out] at HI
      refine HI.out.mono ?_
      rintro e w1 ⟨rfl, hb⟩
      have HD := Lib.hid (HS.out w1 hb)
      clear HS hb HI
      go_wp2_with fail
      go_loopg [5, 6, 7] n (fun gg s5 s6 _ wr => ∃ (i j : Nat) (cs : Array Value), s5 = .int .i64 i ∧ s6 = .int .i64 j ∧ j ≤ n ∧ n - j ≤ gg ∧ Hid (Del w wr gb cap zs p i j cs))
      case atStart => exact ⟨k, k + 1, cs, rfl, by go_num, by omega, by omega, HD.out⟩
      case round =>
        obtain ⟨i, j, cs, rfl, rfl, hjn, hgg, hd⟩ := hrel
        have hij := hd.out.lt
        by_cases hlt : j < n
        · have hj : j < zs.length := by rw [HN.out]; exact hlt
          have hltz : (j : Int) < (n : Int) := by omega
          have cj : wr.cell? ⟨gb, j, none⟩ = some (.int .u8 (zs[j]! : Nat)) := by
            rw [cells_of hd.out.heap j]
            exact hd.out.high j (Nat.le_refl _) hj
          obtain ⟨old, hold⟩ : ∃ old, cs[i]? = some old := ⟨_, Array.getElem?_eq_getElem (by rw [hd.out.size]; omega)⟩
          have hmem : zs[j]! < 256 := HZ.out _ (by rw [getElem!_pos zs j hj]; exact List.getElem_mem _)
          have hcall := HP.out wr zs[j]! hmem hd.out.grown
          have Hh := Lib.hid (fun w2 hq hb => Del.hit (w2 := w2) hd.out hj hq hb)
          have Hm := Lib.hid (fun w2 hq hb => Del.miss (w2 := w2) hd.out hj hq hb)
          have HX := Lib.hid hd.out.heap
          generalize hy : zs[j]! = y at cj hcall Hh Hm
          clear hy hmem hd hj
          cases hq : p y with
          | true =>
            rw [hq] at hcall
            have HL := Lib.hid hcall
            have HM := Lib.hid (fun w2 hb => Hm.out w2 hq hb)
            clear hcall Hh Hm hq
            go_wp2_with (go_at_fn g; refine HL.out.mono ?_; rintro e w2 ⟨rfl, hb2⟩; have HR := Lib.hid (HM.out w2 hb2); clear hb2)
            go_roundg (n - (j + 1))
            case measure => omega
            case rel => exact ⟨i, j + 1, cs, rfl, by go_num, by omega, Nat.le_refl _, HR.out⟩
          | false =>
            rw [hq] at hcall
            have HL := Lib.hid hcall
            have HM := Lib.hid (fun w2 hb => Hh.out w2 hq hb)
            clear hcall Hh Hm hq
            go_wp2_with (go_at_fn g; refine HL.out.mono ?_; rintro e w2 ⟨rfl, hb2⟩; have HR := Lib.hid (HM.out w2 hb2); have h2 := Lib.hid (old_in HX.out hb2); clear hb2; have ci := cells_of h2.out; have fi := frozen_of h2.out)
            go_roundg (n - (j + 1))
            case measure => omega
            case rel => exact ⟨i + 1, j + 1, _, by go_num, by go_num, by omega, Nat.le_refl _, HR.out⟩
        · obtain rfl : j = n := by omega
          have hltz : ¬ (j : Int) < (j : Int) := by omega
          have hdj := hd.out
          rw [← HN.out] at hdj
          have HE := Lib.hid (Del.done (base := base) hdj hbg hcm (List.replicate (j - i) (.int .u8 0)))
          have hcells := cells_of hd.out.heap
          have hfroz := frozen_of hd.out.heap
          have hsz := hd.out.size
          have hcl : ∀ ty, (Builtin.clear_ #[30] ty #[.slice (some ⟨gb, i, none⟩) (j - i) (cap - i)]).run Try.prog wr = .ok (.tuple #[]) (wr.setCells gb i (List.replicate (j - i) (.int .u8 0))) :=
            fun ty => Lib.run_clear_slice wr 30 5 ty (.int .u8 0) Try.underlying30 zero5 rfl rfl gb i _ _ (by omega) (fun t ht => by rw [hcells, Array.getElem?_eq_getElem (by omega)]; rfl) (fun t ht => hfroz _)
          clear hcells hfroz hsz hdj hd
          go_wp2
          go_ret
          exact ⟨_, rfl, HE.out⟩
end Go.Proofs.Ytbekiknbjpdchaa
