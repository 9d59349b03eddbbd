/-
  ScrollAround: at every input the law returns true and leaves its arguments as they were. No condition.
-/
import Derived.Test.YtleggfpcgdpoaaaA
import Derived.Test.YtleggfpcgdpoaaaF
import Derived.Test.YtleggfpcgdpoaaaPl3
import Derived.OpenShut
import Derived.BigQuiet
import Derived.Deep.DeepCutAuto
namespace Go.Proofs.Ytleggfpcgdpoaaa.scrollAround
open Go.Proofs.Ytleggfpcgdpoaaa
open Go.ChangeShapes Go.WideShapes Go.ChangeAt Go.RowKit
set_option linter.unusedVariables false
structure Thr (w x : World) (R D : Nat) (s r d : Int) : Prop where
  s : Row4 x w.heap.size s 0 0 false
  r : Row4 x R r 0 0 false
  d : Row4 x D d 0 0 false
  below : Below w.heap.size w x
  hR : w.heap.size < R
  hD : w.heap.size < D
  ne : R ≠ D
theorem Thr.call {w x y : World} {R D : Nat} {s r d : Int} (h : Thr w x R D s r d) (hb : Below x.heap.size x y) : Thr w y R D s r d :=
  ⟨old_in h.s hb, old_in h.r hb, old_in h.d hb, below_call h.below hb, h.hR, h.hD, h.ne⟩
theorem Thr.alloc {w x : World} {R D : Nat} {s r d : Int} (h : Thr w x R D s r d) (o : Obj) : Thr w (x.alloc o) R D s r d :=
  ⟨old_new h.s _, old_new h.r _, old_new h.d _, h.below.alloc h.below.size _, h.hR, h.hD, h.ne⟩
theorem Thr.drew {w x : World} {R D : Nat} {s r d : Int} (h : Thr w x R D s r d) : Thr w x.drew R D s r d := ⟨h.s, h.r, h.d, h.below.drew, h.hR, h.hD, h.ne⟩
theorem Thr.start1 {w x : World} {s : Int} (h : Row4 x w.heap.size s 0 0 false) (hb : Below w.heap.size w x) : Thr w ((x.alloc (.cells #[.int .u16 s, .int .u16 0, .int .u8 0, .bool false] 24)).alloc (.cells #[.int .u16 s, .int .u16 0, .int .u8 0, .bool false] 24)).drew x.heap.size (x.heap.size + 1) s s s :=
  ⟨old_new (old_new h _) _, heap_alloc2_old _ _ _, by have q := heap_alloc_new (x.alloc (.cells #[.int .u16 s, .int .u16 0, .int .u8 0, .bool false] 24)) (.cells #[.int .u16 s, .int .u16 0, .int .u8 0, .bool false] 24); rwa [World.size_alloc] at q, ((hb.alloc hb.size _).alloc (by rw [World.size_alloc]; exact Nat.le_succ_of_le hb.size) _).drew, lt_of_row h, Nat.lt_succ_of_lt (lt_of_row h), by omega⟩
theorem Thr.start2 {w x : World} {s : Int} (h : Row4 x w.heap.size s 0 0 false) (hb : Below w.heap.size w x) : Thr w ((x.alloc (.cells #[.int .u16 s, .int .u16 0, .int .u8 0, .bool false] 24)).alloc (.cells #[.int .u16 s, .int .u16 0, .int .u8 0, .bool false] 24)).drew (x.heap.size + 1) x.heap.size s s s := by
  have q := Thr.start1 h hb
  exact ⟨q.s, q.d, q.r, q.below, q.hD, q.hR, fun e => q.ne e.symm⟩
theorem row_below {w x : World} {R D : Nat} {s r d : Int} (h : Thr w x R D s r d) : R < x.heap.size ∧ D < x.heap.size := ⟨lt_of_row h.r, lt_of_row h.d⟩
theorem set4 {x : World} {R : Nat} {v t y : Int} {b : Bool} (h : Row4 x R v t y b) (v' t' y' : Int) (b' : Bool) : Row4 ((((x.setCell ⟨R, 0, none⟩ (.int .u16 v')).setCell ⟨R, 1, none⟩ (.int .u16 t')).setCell ⟨R, 2, none⟩ (.int .u8 y')).setCell ⟨R, 3, none⟩ (.bool b')) R v' t' y' b' := by
  have h0 := heap_setCell_same x R 0 _ 24 (.int .u16 v') h
  have h1 := heap_setCell_same _ R 1 _ 24 (.int .u16 t') h0
  have h2 := heap_setCell_same _ R 2 _ 24 (.int .u8 y') h1
  have h3 := heap_setCell_same _ R 3 _ 24 (.bool b') h2
  exact h3
theorem set4_other {x : World} {R k : Nat} {o : Obj} (hk : k ≠ R) (h : x.heap[k]? = some o) (a b c d : Value) : ((((x.setCell ⟨R, 0, none⟩ a).setCell ⟨R, 1, none⟩ b).setCell ⟨R, 2, none⟩ c).setCell ⟨R, 3, none⟩ d).heap[k]? = some o := by
  rw [heap_setCell_other _ _ _ _ hk, heap_setCell_other _ _ _ _ hk, heap_setCell_other _ _ _ _ hk, heap_setCell_other _ _ _ _ hk]
  exact h
theorem set4_below {B : Nat} {w x : World} (h : Below B w x) {R : Nat} (hR : B ≤ R) (a b c d : Value) : Below B w ((((x.setCell ⟨R, 0, none⟩ a).setCell ⟨R, 1, none⟩ b).setCell ⟨R, 2, none⟩ c).setCell ⟨R, 3, none⟩ d) :=
  (((h.setCell (p := ⟨R, 0, none⟩) hR _).setCell (p := ⟨R, 1, none⟩) hR _).setCell (p := ⟨R, 2, none⟩) hR _).setCell (p := ⟨R, 3, none⟩) hR _
theorem Thr.both {w x : World} {R D : Nat} {s r d : Int} (h : Thr w x R D s r d) (r' d' : Int) :
    Thr w ((((((((x.setCell ⟨R, 0, none⟩ (.int .u16 r')).setCell ⟨R, 1, none⟩ (.int .u16 0)).setCell ⟨R, 2, none⟩ (.int .u8 0)).setCell ⟨R, 3, none⟩ (.bool false)).setCell ⟨D, 0, none⟩ (.int .u16 d')).setCell ⟨D, 1, none⟩ (.int .u16 0)).setCell ⟨D, 2, none⟩ (.int .u8 0)).setCell ⟨D, 3, none⟩ (.bool false)) R D s r' d' := by
  have hR := h.hR
  have hD := h.hD
  have k1 : w.heap.size ≠ R := by omega
  have k2 : w.heap.size ≠ D := by omega
  exact ⟨set4_other k2 (set4_other k1 h.s _ _ _ _) _ _ _ _, set4_other h.ne (set4 h.r r' 0 0 false) _ _ _ _, set4 (set4_other (Ne.symm h.ne) h.d _ _ _ _) d' 0 0 false, set4_below (set4_below h.below (Nat.le_of_lt hR) _ _ _ _) (Nat.le_of_lt hD) _ _ _ _, hR, hD, h.ne⟩

set_option maxRecDepth 100000 in
set_option maxHeartbeats 8000000 in
theorem walk (n : Int) (w_n : (Lit.int .u16 n).wf = true) (w : World) :
    Calls Try.prog 4 #[.int .u16 n] w fun r w' => r = .returned (.bool true) ∧ Below w.heap.size w w' := by
  obtain ⟨n0, n1⟩ := bounds_u16 w_n
  clear w_n
  obtain ⟨a, b, h, k, hp, s5⟩ := around_start n n0 n1
  have f1 : bits .and .u16 n 4095 = pt a b h k 0 := (m4095.and n n0 (by omega)).trans hp
  clear hp n0 n1
  obtain ⟨p0, p1⟩ := pt_bd s5
  obtain ⟨_, q2, _, _, _⟩ := pt_parts s5
  obtain ⟨P, hP⟩ : ∃ P, pt a b h k 0 = P := ⟨_, rfl⟩
  rw [hP] at f1 p0 p1 q2
  have f2 : bits .and .u16 (P / 32) 31 = b := (m31.and (P / 32) (by omega) (by omega)).trans q2
  have f3 : bits .andNot .u16 P 992 = pt a 0 h k 0 := by
    refine (m992.andNot P p0 (by omega)).trans ?_
    show P - 32 * (P / 32 % 32) = _
    rw [q2, ← hP]
    unfold pt
    omega
  go_enter Try.func4, Try.ntmps4
  go_upto_if 18 with fail
  go_cut [3] (fun p x => p = .pointer (some ⟨w.heap.size, 0, none⟩) ∧ ∃ c : Int, (0 ≤ c ∧ c ≤ 29) ∧ Hid (Row4 x w.heap.size (pt a c h k 0) 0 0 false) ∧ Hid (Below w.heap.size w x))
  case first =>
    have hb := s5.hb
    by_cases hc : 29 < b
    · go_wp2_with fail
      go_meet
      case rel => exact ⟨rfl, 0, ⟨by omega, by omega⟩, heap_alloc_new _ _, (Below.refl _ _).alloc (Nat.le_refl _) _⟩
    · go_wp2_with fail
      go_meet
      case rel => exact ⟨rfl, b, ⟨hb.1, by omega⟩, by rw [hP]; exact heap_alloc_new _ _, (Below.refl _ _).alloc (Nat.le_refl _) _⟩
  case rest =>
    obtain ⟨rfl, c, hc, hS, hG⟩ := hcut
    clear f1 f2 f3 hP p0 p1 q2
    go_upto_region 4 with fail
    have kS := cells_of hS.out
    have hlt := lt_of_row hS.out
    have hle := Nat.le_of_lt hlt
    go_cut [4, 5] (fun p q x => ∃ R D : Nat, p = .pointer (some ⟨R, 0, none⟩) ∧ q = .pointer (some ⟨D, 0, none⟩) ∧ Hid (Thr w x R D (pt a c h k 0) (pt a c h k 0) (pt a c h k 0)))
    case first =>
      go_region
      · go_wp2_with fail
        go_meet
        case rel => exact ⟨_, _, rfl, rfl, Thr.start1 hS.out hG.out⟩
      · go_wp2_with fail
        go_meet
        case rel => exact ⟨_, _, rfl, rfl, Thr.start2 hS.out hG.out⟩
    case rest =>
      obtain ⟨R, D, rfl, rfl, hT⟩ := hcut
      clear kS hS hG hlt hle
      have sc : Five a c h k 0 := ⟨s5.ha, ⟨hc.1, by omega⟩, s5.hh, s5.hk, s5.hf⟩
      have x1 := xor1024 sc
      have x2 := xor2048 sc
      go_wp2_with fail
      go_loopw [6] (fun i wr => ∃ j : Nat, j ≤ 480 ∧ i = .int .i64 ((j : Int) + 1) ∧ Hid (Thr w wr R D (pt a c h k 0) (rs a c h k 0 j) (ds a c h k j))) (fun i _ => 481 - (intOf i).toNat)
      case atStart => exact ⟨0, by omega, rfl, by rw [rs_zero sc, ds_zero sc hc.2]; exact hT.out⟩
      case round =>
        obtain ⟨j, hj, rfl, hs⟩ := hrel
        by_cases hlt : j < 480
        · have kr := cells_of hs.out.r
          obtain ⟨r0, r1⟩ := pt_bd (rs_five sc j)
          obtain ⟨d0, d1⟩ := pt_bd (ds_five sc j)
          go_wp2_with fail
          refine (right_any (rs a c h k 0 j) 0 0 false _ r0 r1 (by omega) (by omega) (by omega)).mono ?_
          rintro e w1 ⟨he, z1⟩
          rw [rs_next sc j] at he
          subst he
          have lR := lt_of_row (hs.out.call z1).r
          have lD := lt_of_row (hs.out.call z1).d
          replace hs := Lib.hid ((hs.out.call z1).alloc (.cells #[.int .u16 (rs a c h k 0 (j + 1)), .int .u16 0, .int .u8 0, .bool false] 24 (0, 0)))
          clear kr z1
          have kd := cells_of hs.out.d
          go_wp2_with fail
          refine (down_any (ds a c h k j) 0 0 false _ d0 d1 (by omega) (by omega) (by omega)).mono ?_
          rintro e w2 ⟨he, z2⟩
          rw [ds_next sc j] at he
          subst he
          have l2 := lt_of_row (new_at z2 rfl)
          have hA := Lib.hid (old_new (new_at z2 rfl) (.cells #[.int .u16 (ds a c h k (j + 1)), .int .u16 0, .int .u8 0, .bool false] 24 (0, 0)))
          replace hs := Lib.hid ((hs.out.call z2).alloc (.cells #[.int .u16 (ds a c h k (j + 1)), .int .u16 0, .int .u8 0, .bool false] 24 (0, 0)))
          clear kd z2
          go_wp2_with fail
          generalize hW : w2.alloc _ = W
          rw [hW] at hA hs
          have hB := Lib.hid (show W.heap[w2.heap.size]? = some (.cells #[.int .u16 (ds a c h k (j + 1)), .int .u16 0, .int .u8 0, .bool false] 24 (0, 0)) from by rw [← hW]; exact heap_alloc_new _ _)
          clear hW
          have kA := cells_of hA.out
          have kB := cells_of hB.out
          have zR := frozen_of hs.out.r
          have zD := frozen_of hs.out.d
          have kR := cells_of hs.out.r
          have kD := cells_of hs.out.d
          have ne1 := hs.out.ne
          have ne2 := Ne.symm ne1
          have ne3 : w1.heap.size ≠ R := by omega
          have ne4 : w2.heap.size ≠ R := by omega
          have ne5 : w1.heap.size ≠ D := by omega
          have ne6 : w2.heap.size ≠ D := by omega
          have ne7 := Ne.symm ne3
          have ne8 := Ne.symm ne4
          have ne9 := Ne.symm ne5
          have nea := Ne.symm ne6
          go_region
          have hs3 := Lib.hid (hs.out.both (rs a c h k 0 (j + 1)) (ds a c h k (j + 1))).drew
          generalize hX : World.drew _ = X
          rw [hX] at hs3
          clear hX hs hA hB kA kB zR zD kR kD ne1 ne2 ne3 ne4 ne5 ne6 ne7 ne8 ne9 nea lR lD l2
          have tm : ((j : Int) + 1).tmod 64 = ((j : Int) + 1) % 64 := Int.tmod_eq_emod_of_nonneg (by omega)
          have kS := cells_of hs3.out.s
          have kR := cells_of hs3.out.r
          have kD := cells_of hs3.out.d
          by_cases c0 : ((j : Int) + 1) % 64 = 0
          · have e0 : rs a c h k 0 (j + 1) = pt a c h k 0 := rs_64 sc (j + 1) (by push_cast; exact c0)
            rw [c0] at tm
            rw [e0] at kR
            have b3 : ((j : Int) + 1 == 240) = false := by simp; omega
            go_wp2_with fail
            go_roundw
            case rel => exact ⟨j + 1, by omega, by go_num, hs3.out⟩
            case measure => simp [intOf]; omega
          · by_cases c1 : ((j : Int) + 1) % 64 = 32
            · have e0 : rs a c h k 0 (j + 1) = pt a c (1 - h) k 0 := rs_32 sc (j + 1) (by push_cast; exact c1)
              rw [c1] at tm
              rw [e0] at kR
              have b3 : ((j : Int) + 1 == 240) = false := by simp; omega
              go_wp2_with fail
              go_roundw
              case rel => exact ⟨j + 1, by omega, by go_num, hs3.out⟩
              case measure => simp [intOf]; omega
            · have b1 : (((j : Int) + 1) % 64 == 0) = false := by simp; omega
              have b2 : (((j : Int) + 1) % 64 == 32) = false := by simp; omega
              by_cases c2 : (j : Int) + 1 = 240
              · have e0 : ds a c h k (j + 1) = pt a c h (1 - k) 0 := by
                  rw [show j + 1 = 240 from by omega]
                  exact ds_240 sc hc.2
                have b3 : ((j : Int) + 1 == 240) = true := by simp; omega
                rw [e0] at kD
                go_wp2_with fail
                go_roundw
                case rel => exact ⟨j + 1, by omega, by go_num, hs3.out⟩
                case measure => simp [intOf]; omega
              · have b3 : ((j : Int) + 1 == 240) = false := by simp; omega
                go_wp2_with fail
                go_roundw
                case rel => exact ⟨j + 1, by omega, by go_num, hs3.out⟩
                case measure => simp [intOf]; omega
        · obtain rfl : j = 480 := by omega
          have kS := cells_of hs.out.s
          have e0 : ds a c h k 480 = pt a c h k 0 := ds_480 sc hc.2
          have kD := cells_of hs.out.d
          rw [e0] at kD
          go_wp2_with fail
          refine (awake_any _).mono ?_
          rintro e w1 ⟨rfl, z1⟩
          go_wp2
          go_ret
          exact ⟨rfl, below_call hs.out.below z1⟩

set_option maxRecDepth 100000 in
theorem lifted (os : Os) (started : os.Started) (H : Type) (enc : TypeId × Value → H) :
    ReturnsInHanded {} Try.checked os 4 .any (Rows.scrollAroundSpec.pre6 enc Try.prog Try.f4 Rows.scrollAroundRow.domain false) (Rows.scrollAroundSpec.post enc Try.prog Try.f4 false true false false) := by
  refine returnsInHanded_of_change (C := Try.checked) own started (by kernel_rfl) Try.func4
    (ChangeSpec.witness6 (enc := enc) (C := Try.checked) false ⟨#[], #[.int .u16 0], []⟩ 8 (by kernel_rfl) (by kernel_rfl) (by kernel_rfl) (by kernel_rfl)) ?_
  intro W base args ds gs before hval0 hW hcnd _
  have hval : ∀ (j : Nat) t v, Try.f4.params[j]? = some t → args[j]? = some v → Value.okWide Try.prog W .any base t v := hval0
  have hW' := hW
  obtain ⟨p, q, hA0, hV, rfl, hfz, hnd⟩ := hW
  have hA : DataW.TrodAll enc Try.prog W 0 (fun _ => true) true Try.f4.params.toList args.toList ds p := hA0
  rw [Try.params4] at hA hval
  obtain ⟨v0, vs0, d0, ds0, p0, q0, hargs, rfl, rfl, h0, r0⟩ := trodAll_cons hA
  obtain ⟨rfl, rfl, rfl⟩ := trodAll_nil r0
  obtain rfl : args = #[v0] := by cases args; simp_all
  obtain ⟨rfl, rfl⟩ := trodVars_none hV
  obtain ⟨n, rfl, rfl, rfl, w_n⟩ := open_int Try.underlying22 (hval 0 22 v0 rfl rfl) h0
  clear hA0 hval0
  simp only [List.append_nil] at hW'
  refine (walk n w_n W).mono fun e W' ⟨he, hg⟩ => ?_
  subst he
  exact ⟨_, rfl, _, _, _, [], _, [], hW', trodAll_mk1 (shut_bool Try.underlying4 _), (trodAll_cons_mk (shut_int Try.underlying22 w_n) trodAll_mk0), rfl, hg.frame _, fun h => by cases h⟩

theorem over : Rows.scrollAroundRow.holds Try.pinned (OpenSpec.ofChange Rows.scrollAroundSpec) :=
  OpenClaim.holds_of_wide 4 Try.f4 rfl rfl rfl rfl rfl rfl rfl ⟨rfl, rfl, rfl, rfl, rfl⟩ rfl rfl rfl rfl rfl (by kernel_rfl) Try.func4 (by kernel_rfl)
    (of_decide_eq_true (by kernel_rfl)) (by unfold Func.isWrapper; first | (rw [if_pos (by decide +kernel)]; kernel_rfl) | (rw [if_neg (by decide +kernel)]; exact ⟨rfl, rfl⟩))
    (fun os started H enc _ => lifted os started H enc)

/-- THE STATEMENT -/
theorem proved : Rows.ScrollAroundSaid :=
  over
#print axioms proved
end Go.Proofs.Ytleggfpcgdpoaaa.scrollAround
