/-
  VramColours: at every octet the law returns true and leaves its argument as it was. No condition.
  (The frame behind the walk was written by the kit's proof-skeleton.mjs.)
-/
import Derived.Test.YtbimklogfaihlaaA
import Derived.Test.YtbimklogfaihlaaPl3
import Derived.Test.YtbimklogfaihlaaRows
import Derived.WalkKit
import Derived.ProofKit
import Derived.OpenShut
namespace Go.Proofs.Ytbimklogfaihlaa.vramColours
open Go.ChangeShapes Go.WideShapes Go.ChangeAt Go.RowKit
set_option linter.unusedVariables false      -- a walk need not use every 'w<i>' (that an integer argument fits its kind)

theorem own : ownKnob Try.prog.godebug = none := by kernel_rfl

/-! ### STEP 1: THE WALK: the Go text returns true. 'Grown w w'': the world has at most new blocks (Derived/RowKit3.lean). Part the cases AHEAD of 'go_enter' where a test parts the walk; take each callee by a contract of your own. -/
set_option maxHeartbeats 4000000 in
set_option maxRecDepth 100000 in
theorem walk (a0 : Int) (w0 : (Lit.int .u8 a0).wf = true) (w : World) :
    Calls Try.prog 7 #[.int .u8 a0] w fun e w' => e = .returned (.bool true) ∧ Grown w w' := by
  obtain ⟨b0, b1⟩ := bounds_u8 w0
  clear w0
  go_enter Try.func7, Try.ntmps7
  go_wp2_with fail
  go_loopw [4] (fun i wr => ∃ k : Nat, k ≤ 256 ∧ i = .int .i64 k ∧ Hid (Tab w.heap.size k wr) ∧ Hid (Grown w wr)) (fun i _ => 256 - (intOf i).toNat)
  case atStart => exact ⟨0, by omega, rfl, Tab.start w, (Grown.refl w).alloc _ _⟩
  case round =>
    obtain ⟨k, hk, rfl, ht, hg⟩ := hrel
    by_cases hlt : k < 256
    · obtain ⟨p0, p1⟩ := pl_bd (16128 + (k : Int))
      obtain ⟨q, hq⟩ : ∃ q : Nat, pl (16128 + (k : Int)) = q := ⟨(pl (16128 + (k : Int))).toNat, by omega⟩
      have hq2 : q < 32 := by omega
      obtain ⟨hc, hf⟩ := ht q hq2
      have c1 := cn_le k q
      generalize hcc : cn k q = c at hc c1
      have Hcc := Lib.hid hcc
      clear hcc
      go_wp2_with fail
      refine (pal_ok (16128 + (k : Int)) _ (by omega) (by omega) (by omega)).mono ?_
      rintro e w1 ⟨rfl, rfl⟩
      go_wp2
      go_roundw
      case rel => exact ⟨k + 1, by omega, by go_num, Tab.next ht (by rw [hq]; rfl) hq2 _ (by rw [Hcc.out]), hg.setCell (Nat.le_refl _) _⟩
      case measure => simp [intOf]; omega
    · obtain rfl : k = 256 := by omega
      have ht2 : ∀ j : Nat, j < 32 → wr.cell? ⟨w.heap.size, j, none⟩ = some (.int .i64 (wt j : Nat)) := fun j hj => by rw [(ht j hj).1, cn_all j hj]
      have Ht := Lib.hid ht2
      clear ht2 ht
      go_wp2_with fail
      go_loop [7, 8] (fun n i => ∃ j : Nat, j ≤ 32 ∧ i = .int .i64 j ∧ n = .int .i64 (pc j : Nat)) (fun _ i => 32 - (intOf i).toNat)
      case atStart => exact ⟨0, by omega, rfl, rfl⟩
      case round =>
        obtain ⟨j, hj, rfl, rfl⟩ := hrel
        have hs : j = 0 ∨ j = 4 ∨ j = 8 ∨ j = 12 ∨ j = 16 ∨ j = 20 ∨ j = 24 ∨ j = 28 ∨ j = 32 ∨ (j < 32 ∧ j ≠ 0 ∧ j ≠ 4 ∧ j ≠ 8 ∧ j ≠ 12 ∧ j ≠ 16 ∧ j ≠ 20 ∧ j ≠ 24 ∧ j ≠ 28) := by omega
        rcases hs with rfl | rfl | rfl | rfl | rfl | rfl | rfl | rfl | rfl | ⟨hlt2, n0, n4, n8, n12, n16, n20, n24, n28⟩
        · have hc : wr.cell? ⟨w.heap.size, 0, none⟩ = some (.int .i64 16) := Ht.out 0 (by omega)
          have hpc := pc_le 0
          go_wp2
          go_round
          case rel => exact ⟨1, by omega, rfl, rfl⟩
          case measure => simp [intOf]
        · have hc : wr.cell? ⟨w.heap.size, 4, none⟩ = some (.int .i64 16) := Ht.out 4 (by omega)
          have hpc := pc_le 4
          go_wp2
          go_round
          case rel => exact ⟨5, by omega, rfl, rfl⟩
          case measure => simp [intOf]
        · have hc : wr.cell? ⟨w.heap.size, 8, none⟩ = some (.int .i64 16) := Ht.out 8 (by omega)
          have hpc := pc_le 8
          go_wp2
          go_round
          case rel => exact ⟨9, by omega, rfl, rfl⟩
          case measure => simp [intOf]
        · have hc : wr.cell? ⟨w.heap.size, 12, none⟩ = some (.int .i64 16) := Ht.out 12 (by omega)
          have hpc := pc_le 12
          go_wp2
          go_round
          case rel => exact ⟨13, by omega, rfl, rfl⟩
          case measure => simp [intOf]
        · have hc : wr.cell? ⟨w.heap.size, 16, none⟩ = some (.int .i64 0) := Ht.out 16 (by omega)
          go_wp2
          go_round
          case rel => exact ⟨17, by omega, rfl, rfl⟩
          case measure => simp [intOf]
        · have hc : wr.cell? ⟨w.heap.size, 20, none⟩ = some (.int .i64 0) := Ht.out 20 (by omega)
          go_wp2
          go_round
          case rel => exact ⟨21, by omega, rfl, rfl⟩
          case measure => simp [intOf]
        · have hc : wr.cell? ⟨w.heap.size, 24, none⟩ = some (.int .i64 0) := Ht.out 24 (by omega)
          go_wp2
          go_round
          case rel => exact ⟨25, by omega, rfl, rfl⟩
          case measure => simp [intOf]
        · have hc : wr.cell? ⟨w.heap.size, 28, none⟩ = some (.int .i64 0) := Ht.out 28 (by omega)
          go_wp2
          go_round
          case rel => exact ⟨29, by omega, rfl, rfl⟩
          case measure => simp [intOf]
        · obtain ⟨u, hu, u0, u1, um⟩ := xor32i a0 b0 b1
          have he := pl_mod (16128 + u) (16128 + a0) (by omega)
          clear um
          go_wp2_with fail
          refine (pal_ok (16128 + a0) _ (by omega) (by omega) (by omega)).mono ?_
          rintro e w1 ⟨rfl, rfl⟩
          go_wp2_with fail
          refine (pal_ok (16128 + u) _ (by omega) (by omega) (by omega)).mono ?_
          rintro e w1 ⟨rfl, rfl⟩
          go_wp2_with fail
          refine (awake_any _).mono ?_
          rintro e w1 ⟨rfl, g1⟩
          go_wp2
          go_ret
          exact ⟨rfl, gtrans hg g1⟩
        · have hw : wt j = 8 := by
            unfold wt
            rw [if_neg (by omega), if_neg (by omega)]
          have hc : wr.cell? ⟨w.heap.size, j, none⟩ = some (.int .i64 8) := by
            rw [Ht.out j hlt2, hw]
            rfl
          have hpc := pc_le j
          have Hw := Lib.hid hw
          clear hw
          go_wp2
          go_round
          case rel => exact ⟨j + 1, by omega, by go_num, by simp [pc, Hw.out]⟩
          case measure => simp [intOf]; omega

/-! ### THE ROW's STEP: WRITTEN OUT: LEAVE IT -/
set_option maxRecDepth 100000 in
theorem lifted (os : Os) (started : os.Started) (H : Type) (enc : TypeId × Value → H) :
    ReturnsInHanded {} Try.checked os 7 .any (Rows.vramColoursSpec.pre6 enc Try.prog Try.f7 Rows.vramColoursRow.domain false) (Rows.vramColoursSpec.post enc Try.prog Try.f7 false true false false) := by
  refine returnsInHanded_of_change (C := Try.checked) own started (by kernel_rfl) Try.func7
    (ChangeSpec.witness6 (enc := enc) (C := Try.checked) false ⟨#[], #[.int .u8 0], []⟩ 8 (by kernel_rfl) (by kernel_rfl) (by kernel_rfl) (by kernel_rfl)) ?_
  intro W base args ds gs before hval0 hW hcnd _
  have hval : ∀ (j : Nat) t v, Try.f7.params[j]? = some t → args[j]? = some v → Value.okWide Try.prog W .any base t v := hval0
  have hW' := hW
  obtain ⟨p, q, hA0, hV, rfl, hfz, hnd⟩ := hW
  have hA : DataW.TrodAll enc Try.prog W 0 (fun _ => true) true Try.f7.params.toList args.toList ds p := hA0
  rw [Try.params7] at hA hval
  obtain ⟨v0, vs0, d0, ds0, p0, q0, hargs, rfl, rfl, h0, r0⟩ := trodAll_cons hA
  obtain ⟨rfl, rfl, rfl⟩ := trodAll_nil r0
  obtain rfl : args = #[v0] := by cases args; simp_all
  obtain ⟨rfl, rfl⟩ := trodVars_none hV
  obtain ⟨a0, rfl, rfl, rfl, w0⟩ := open_int Try.underlying5 (hval 0 5 v0 rfl rfl) h0
  clear hA0 hval0
  simp only [List.append_nil] at hW'
  refine (walk a0 w0 W).mono fun e W' ⟨he, hg⟩ => ?_
  subst he
  exact ⟨_, rfl, post_of_same (pa := []) (pv := []) hW' (fun _ _ _ => (trodAll_cons_mk (shut_bool Try.underlying4 _) trodAll_mk0)) (fun sp _ => (trodAll_cons_mk (shut_int Try.underlying5 w0) trodAll_mk0)) (fun _ _ => rfl) rfl
    (hg.frame _) hg.2.1 (ok_one (by kernel_rfl) rfl (okWide_bool_mk Try.underlying4 _))⟩

theorem over : Rows.vramColoursRow.holds Try.pinned (OpenSpec.ofChange Rows.vramColoursSpec) :=
  OpenClaim.holds_of_wide 7 Try.f7 rfl rfl rfl rfl rfl rfl rfl ⟨rfl, rfl, rfl, rfl, rfl⟩ rfl rfl rfl rfl rfl (by kernel_rfl) Try.func7 (by kernel_rfl)
    (of_decide_eq_true (by kernel_rfl)) (by unfold Func.isWrapper; first | (rw [if_pos (by decide +kernel)]; kernel_rfl) | (rw [if_neg (by decide +kernel)]; exact ⟨rfl, rfl⟩))
    (fun os started H enc _ => lifted os started H enc)

/-- THE STATEMENT -/
theorem proved : Rows.VramColoursSaid :=
  over
#print axioms proved
end Go.Proofs.Ytbimklogfaihlaa.vramColours
