/-
  OpcodeCounts: at every input the law returns true and leaves its arguments as they were. No condition.
-/
import Derived.Test.YtbekiknbjpdchaaK
import Derived.OpenShut
import Derived.HandedShaped
import Derived.BigQuiet
import Derived.Deep.DeepCutAuto
namespace Go.Proofs.Ytbekiknbjpdchaa.opcodeCounts
open Go.Proofs.Ytbekiknbjpdchaa
open Go.ChangeShapes Go.WideShapes Go.ChangeAt Go.RowKit
set_option linter.unusedVariables false
theorem own : ownKnob Try.prog.godebug = none := by kernel_rfl
theorem str_inj {a b : ByteArray} (h : a.toList = b.toList) : a = b := Go.WideShapes.bytes_inj (by rw [← ByteArray.toList_eq, ← ByteArray.toList_eq]; exact h)
theorem hlt_in {w : World} {B : Nat} {o : Obj} (h : w.heap[B]? = some o) : B < w.heap.size := by
  rcases Nat.lt_or_ge B w.heap.size with q | q
  · exact q
  · rw [Array.getElem?_eq_none q] at h
    cases h
theorem jam_cases {m : Int} {g : Bool} {s : ByteArray} (h : m ≠ 20 ∨ g = false) (h2 : decide (s.data.toList = [74, 65, 77]) = decide (m = 20)) : (m = 20 ∧ g = false ∧ s = ⟨#[74, 65, 77]⟩) ∨ (m ≠ 20 ∧ s.toList ≠ [74, 65, 77]) := by
  by_cases q : m = 20
  · left
    refine ⟨q, h.resolve_left (fun f => f q), ?_⟩
    rw [decide_eq_true q, decide_eq_true_eq] at h2
    exact Go.WideShapes.bytes_inj h2
  · right
    refine ⟨q, ?_⟩
    rw [decide_eq_false q, decide_eq_false_iff_not] at h2
    rw [ByteArray.toList_eq]
    exact h2
set_option maxRecDepth 100000 in
set_option maxHeartbeats 8000000 in
theorem walk (op : Int) (w_op : (Lit.int .u8 op).wf = true) (k : Int) (w : World) (hm : w.cell? ⟨0, 0, none⟩ = some (.int .i64 k)) :
    Calls Try.prog 3 #[.int .u8 op] w fun r w' => r = .returned (.bool true) ∧ Below w.heap.size w w' := by
  obtain ⟨o0, o1⟩ := bounds_u8 w_op
  clear w_op
  obtain ⟨i, hi⟩ : ∃ i : Nat, op = i := ⟨op.toNat, by omega⟩
  subst hi
  have hi2 : i < 256 := by omega
  obtain ⟨N, hN⟩ : ∃ N, tableAt Try.f8 0 = N := ⟨_, rfl⟩
  obtain ⟨M, hM⟩ : ∃ M, tableAt Try.f8 1 = M := ⟨_, rfl⟩
  obtain ⟨L, hL⟩ : ∃ L, tableAt Try.f8 2 = L := ⟨_, rfl⟩
  obtain ⟨R, hR⟩ : ∃ R, tableAt Try.f8 3 = R := ⟨_, rfl⟩
  have e1 := all_G
  have e2 := all_J
  have e3 := fun n (h : n < 256) => List.all_eq_true.1 all_jam n (List.mem_range.2 h)
  have e4 := two_not
  rw [hN, hR] at e1
  rw [hM, hL] at e2
  rw [hN, hM, hL, hR] at e3 e4
  simp only [Bool.and_eq_true, Bool.or_eq_true, decide_eq_true_eq, beq_iff_eq] at e3
  have E1 := Lib.hid e1
  have E2 := Lib.hid e2
  have E3 := Lib.hid e3
  have E4 := Lib.hid e4
  have Q1 := Lib.hid (fun n (h : n < 256) W hm => decode_any n h N M L R hN hM hL hR k W hm)
  have Q2 := Lib.hid (fun W h => awake_any N M L R hN hM hL hR k W h)
  have Hm := Lib.hid hm
  have hz := cell_lt hm
  clear hN hM hL hR hm o0 o1 e1 e2 e3 e4
  go_enter Try.func3, Try.ntmps3
  go_wp2_with fail
  refine (Q1.out i hi2 _ Hm.out).mono ?_
  rintro e w1 ⟨rfl, z1⟩
  generalize hs0 : oS N i = s0
  generalize hm0 : oM M L i = m0
  generalize oU N M L i = u0
  generalize oC N M L i = c0
  generalize oX N M L i = x0
  generalize hg0 : oG N R i = g0
  have Hs0 := Lib.hid hs0
  have Hm0 := Lib.hid hm0
  have Hg0 := Lib.hid hg0
  have hB1 : w.heap.size ≤ w1.heap.size := z1.size
  have G1 := Lib.hid (z1.alloc z1.size (.cells #[.string s0, .int .i64 m0, .int .i64 u0, .int .i64 c0, .bool x0, .bool g0] 23 (0, 0)))
  clear z1 hs0 hm0 hg0
  generalize hB : w1.heap.size = B at *
  go_wp2_with fail
  have hr0 := Lib.hid (show (w1.alloc (.cells #[.string s0, .int .i64 m0, .int .i64 u0, .int .i64 c0, .bool x0, .bool g0] 23)).heap[B]? = some (.cells #[.string s0, .int .i64 m0, .int .i64 u0, .int .i64 c0, .bool x0, .bool g0] 23 (0, 0)) from by rw [← hB]; exact heap_alloc_new _ _)
  have Hlt : B < (w1.alloc (.cells #[.string s0, .int .i64 m0, .int .i64 u0, .int .i64 c0, .bool x0, .bool g0] 23)).heap.size := by rw [World.size_alloc, hB]; omega
  generalize World.alloc _ _ = w2 at G1 hr0 Hlt ⊢
  go_loopw [3, 4, 6] (fun g j i wr => ∃ n : Nat, n ≤ 256 ∧ i = .int .i64 n ∧ g = .int .i64 (cG N R n) ∧ j = .int .i64 (cJ M L n) ∧ Hid (wr.heap[B]? = some (.cells #[.string s0, .int .i64 m0, .int .i64 u0, .int .i64 c0, .bool x0, .bool g0] 23 (0, 0))) ∧ Hid (Below w.heap.size w wr)) (fun _ _ i _ => 256 - (intOf i).toNat)
  case atStart => exact ⟨0, by omega, rfl, rfl, rfl, hr0.out, G1.out⟩
  case round =>
    obtain ⟨n, hn, rfl, rfl, rfl, hr, hb⟩ := hrel
    by_cases hlt : n < 256
    · have e0 : IntKind.u8.wrap (n : Int) = n := IntWalk.u8_in _ (by omega)
      have a3 := E3.out n hlt
      obtain ⟨a3, a5⟩ := a3
      have a4 := E4.out n i hlt hi2
      rw [Hg0.out, Hs0.out, Hm0.out] at a4
      have a6 : cG N R (n + 1) = if oG N R n = true then cG N R n + 1 else cG N R n := rfl
      have a7 : cJ M L (n + 1) = if oM M L n = 20 then cJ M L n + 1 else cJ M L n := rfl
      have gb := cG_le N R n
      have jb := cJ_le M L n
      have w1' : IntKind.i64.wrap (cG N R n + 1) = cG N R n + 1 := IntWalk.i64_in _ (by omega)
      have w2' : IntKind.i64.wrap (cJ M L n + 1) = cJ M L n + 1 := IntWalk.i64_in _ (by omega)
      have A3 := Lib.hid a3
      have A4 := Lib.hid a4
      have A5 := Lib.hid a5
      have A6 := Lib.hid a6
      have A7 := Lib.hid a7
      clear a3 a4 a5 a6 a7 gb jb
      go_wp2_with fail
      refine (Q1.out n hlt _ (hm_below Hm.out hz hb.out)).mono ?_
      rintro e w3 ⟨rfl, z⟩
      have HB' := Lib.hid (below_call hb.out z)
      have HR' := Lib.hid (old_in hr.out z)
      have Hw : B < w3.heap.size := by
        have := hlt_in hr.out
        have := z.size
        omega
      clear z hr hb
      have A3 := Lib.hid (jam_cases A3.out A5.out)
      clear A5
      generalize oS N n = s at A3 A4 ⊢
      generalize oU N M L n = u
      generalize oC N M L n = c
      generalize oX N M L n = x
      generalize oM M L n = m at A3 A4 A7 ⊢
      generalize oG N R n = g at A3 A4 A6 ⊢
      have hro := Lib.hid ((heap_alloc_old w3 (.cells #[.string s, .int .i64 m, .int .i64 u, .int .i64 c, .bool x, .bool g] 23) Hw).trans HR'.out)
      have hrb := Lib.hid (HB'.out.alloc HB'.out.size (.cells #[.string s, .int .i64 m, .int .i64 u, .int .i64 c, .bool x, .bool g] 23))
      have ko := cells_of HR'.out
      rcases A3.out with ⟨hm20, hg, hs⟩ | ⟨hm20, hs⟩
      · subst hm20 hg hs
        clear A3 A4
        have e6 := Lib.hid (A6.out.trans (if_neg (by decide)))
        have e7 := Lib.hid (A7.out.trans (if_pos rfl))
        clear A6 A7
        by_cases hn : n = i
        · subst hn
          go_wp2_with fail
          go_roundw
          case rel => exact ⟨n + 1, by omega, by go_num, by rw [e6.out], by rw [e7.out], hro.out, hrb.out⟩
          case measure => simp [intOf]; omega
        · have bn : ((n : Int) != (i : Int)) = true := by
            rw [bne_iff_ne]
            omega
          go_wp2_with fail
          go_roundw
          case rel => exact ⟨n + 1, by omega, by go_num, by rw [e6.out], by rw [e7.out], hro.out, hrb.out⟩
          case measure => simp [intOf]; omega
      · have b20 : (m == 20) = false := by
          rw [beq_eq_false_iff_ne]
          exact hm20
        have bs : (s.toList == [74, 65, 77]) = false := by
          rw [beq_eq_false_iff_ne]
          exact hs
        have e7 := Lib.hid (A7.out.trans (if_neg hm20))
        clear A3 A7 hm20 hs
        cases g
        · clear A4
          have e6 := Lib.hid (A6.out.trans (if_neg (by decide)))
          clear A6
          by_cases hn : n = i
          · subst hn
            go_wp2_with fail
            go_roundw
            case rel => exact ⟨n + 1, by omega, by go_num, by rw [e6.out], by rw [e7.out], hro.out, hrb.out⟩
            case measure => simp [intOf]; omega
          · have bn : ((n : Int) != (i : Int)) = true := by
              rw [bne_iff_ne]
              omega
            go_wp2_with fail
            go_roundw
            case rel => exact ⟨n + 1, by omega, by go_num, by rw [e6.out], by rw [e7.out], hro.out, hrb.out⟩
            case measure => simp [intOf]; omega
        · have e6 := Lib.hid (A6.out.trans (if_pos rfl))
          clear A6
          by_cases hn : n = i
          · subst hn
            clear A4
            go_wp2_with fail
            go_roundw
            case rel => exact ⟨n + 1, by omega, by go_num, by rw [e6.out], by rw [e7.out], hro.out, hrb.out⟩
            case measure => simp [intOf]; omega
          · have bn : ((n : Int) != (i : Int)) = true := by
              rw [bne_iff_ne]
              omega
            cases g0
            · clear A4
              go_wp2_with fail
              go_roundw
              case rel => exact ⟨n + 1, by omega, by go_num, by rw [e6.out], by rw [e7.out], hro.out, hrb.out⟩
              case measure => simp [intOf]; omega
            · by_cases hss : s = s0
              · have hmm := A4.out hn rfl rfl hss
                subst hss
                have bm : (m == m0) = false := by
                  rw [beq_eq_false_iff_ne]
                  exact hmm
                clear A4 hmm
                go_wp2_with fail
                go_roundw
                case rel => exact ⟨n + 1, by omega, by go_num, by rw [e6.out], by rw [e7.out], hro.out, hrb.out⟩
                case measure => simp [intOf]; omega
              · have bss : (s.toList == s0.toList) = false := by
                  rw [beq_eq_false_iff_ne]
                  exact fun q => hss (str_inj q)
                clear A4 hss
                go_wp2_with fail
                go_roundw
                case rel => exact ⟨n + 1, by omega, by go_num, by rw [e6.out], by rw [e7.out], hro.out, hrb.out⟩
                case measure => simp [intOf]; omega
    · obtain rfl : n = 256 := by omega
      have Hr := hr
      rw [E1.out, E2.out]
      go_wp2_with fail
      refine (Q2.out _ (hm_below Hm.out hz hb.out)).mono ?_
      rintro e w3 ⟨rfl, z⟩
      go_wp2
      go_ret
      exact ⟨rfl, below_call hb.out z⟩

set_option maxRecDepth 100000 in
theorem lifted (os : Os) (started : os.Started) (H : Type) (enc : TypeId × Value → H) :
    ReturnsInHanded {} Try.checked os 3 .any (Rows.opcodeCountsSpec.pre6 enc Try.prog Try.f3 Rows.opcodeCountsRow.domain false) (Rows.opcodeCountsSpec.post enc Try.prog Try.f3 false true false false) := by
  refine returnsInHanded_of_change_shaped (C := Try.checked) own started (by kernel_rfl) Try.func3
    (ChangeSpec.witness6 (enc := enc) (C := Try.checked) false ⟨#[], #[.int .u8 0], []⟩ 8 (by kernel_rfl) (by kernel_rfl) (by kernel_rfl) (by kernel_rfl)) ?_
  intro W base args ds gs before hval0 hW hcnd _ hsh _
  have hval : ∀ (j : Nat) t v, Try.f3.params[j]? = some t → args[j]? = some v → Value.okWide Try.prog W .any base t v := hval0
  have hW' := hW
  obtain ⟨p, q, hA0, hV, rfl, hfz, hnd⟩ := hW
  have hA : DataW.TrodAll enc Try.prog W 0 (fun _ => true) true Try.f3.params.toList args.toList ds p := hA0
  rw [Try.params3] at hA hval
  obtain ⟨v0, vs0, d0, ds0, p0, q0, hargs, rfl, rfl, h0, r0⟩ := trodAll_cons hA
  obtain ⟨rfl, rfl, rfl⟩ := trodAll_nil r0
  obtain rfl : args = #[v0] := by cases args; simp_all
  obtain ⟨rfl, rfl⟩ := trodVars_none hV
  obtain ⟨op, rfl, rfl, rfl, w_op⟩ := open_int Try.underlying5 (hval 0 5 v0 rfl rfl) h0
  clear hA0 hval0
  simp only [List.append_nil] at hW'
  obtain ⟨k, hk⟩ := Try.laysM219.s1_3 W hsh
  refine (walk op w_op k W hk).mono fun e W' ⟨he, hg⟩ => ?_
  subst he
  exact ⟨_, rfl, _, _, _, [], _, [], hW', trodAll_mk1 (shut_bool Try.underlying4 _), (trodAll_cons_mk (shut_int Try.underlying5 w_op) trodAll_mk0), rfl, hg.frame _, fun h => by cases h⟩

theorem over : Rows.opcodeCountsRow.holds Try.pinned (OpenSpec.ofChange Rows.opcodeCountsSpec) :=
  OpenClaim.holds_of_wide 3 Try.f3 rfl rfl rfl rfl rfl rfl rfl ⟨rfl, rfl, rfl, rfl, rfl⟩ rfl rfl rfl rfl rfl (by kernel_rfl) Try.func3 (by kernel_rfl)
    (of_decide_eq_true (by kernel_rfl)) (by unfold Func.isWrapper; first | (rw [if_pos (by decide +kernel)]; kernel_rfl) | (rw [if_neg (by decide +kernel)]; exact ⟨rfl, rfl⟩))
    (fun os started H enc _ => lifted os started H enc)

/-- THE STATEMENT -/
theorem proved : Rows.OpcodeCountsSaid :=
  over
#print axioms proved
end Go.Proofs.Ytbekiknbjpdchaa.opcodeCounts
