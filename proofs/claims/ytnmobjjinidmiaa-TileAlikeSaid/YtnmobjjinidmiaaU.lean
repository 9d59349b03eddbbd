/- The contract of the reference's Alike. -/
import Derived.Test.YtnmobjjinidmiaaPl5
import Derived.Test.YtnmobjjinidmiaaA
namespace Go.Proofs.Ytnmobjjinidmiaa
open Go.ChangeShapes Go.WideShapes Go.ChangeAt Go.RowKit
theorem bit_eq (n : Int) (i : Nat) (v : Int) (w : World) (n0 : 0 ≤ n) (n1 : n ≤ 65535) (hi : i < 16) (h : bi n i = v) :
    Calls Try.prog 22 #[.int .u16 n, .int .i64 i] w fun e w' => e = .returned (.int .i64 v) ∧ w' = w := by
  subst h
  exact bit_any n i w n0 n1 hi
theorem bi_or (n : Int) (i : Nat) : bi n i = 0 ∨ bi n i = 1 := by have := bi_bd n i; omega
theorem bi_ne {n m : Int} {i : Nat} (h : bi n i ≠ bi m i) : (bi n i = 0 ∧ bi m i = 1) ∨ (bi n i = 1 ∧ bi m i = 0) := by have := bi_or n i; have := bi_or m i; omega
theorem quiet_of_same2 {P : Program} {f : FuncId} {args : Array Value} {w : World} {k n : Nat} {v : Value}
    (h : Calls P f args (w.drewN (k + n)) fun e w' => e = .returned v ∧ w' = w.drewN (k + n)) : Calls P f args (w.drewN (k + n)) fun e w'' => e = .returned v ∧ ∃ m, w'' = w.drewN (k + m) :=
  h.mono fun _ _ ⟨he, hm⟩ => ⟨he, n, hm⟩
structure Pair (w wr : World) (box box' : Array Value) : Prop where
  r0 : wr.heap[w.heap.size]? = some (.cells box 24 (0, 0))
  r1 : wr.heap[w.heap.size + 1]? = some (.cells box' 24 (0, 0))
  below : Below w.heap.size w wr
theorem Pair.dn {w wr : World} {x y : Array Value} (h : Pair w wr x y) (n : Nat) : Pair w (wr.drewN n) x y := ⟨h.r0, h.r1, below_dn h.below n⟩
theorem Pair.dr {w wr : World} {x y : Array Value} (h : Pair w wr x y) : Pair w wr.drew x y := ⟨h.r0, h.r1, h.below.drew⟩
theorem Pair.start (w : World) (x y : Array Value) : Pair w ((w.alloc (.cells x 24)).alloc (.cells y 24)) x y := ⟨heap_alloc2_old _ _ _, by have := heap_alloc_new (w.alloc (.cells x 24)) (.cells y 24); rwa [World.size_alloc] at this, by go_grown⟩
set_option maxHeartbeats 8000000 in
theorem ralike_any (a b c d e a' b' c' d' e' : Int) (w : World) (a0 : 0 ≤ a) (a1 : a ≤ 65535) (b0 : 0 ≤ b) (b1 : b ≤ 65535) (c0 : 0 ≤ c) (c1 : c ≤ 65535) (d0 : 0 ≤ d) (d1 : d ≤ 65535) (e0 : 0 ≤ e) (e1 : e ≤ 65535) (aq0 : 0 ≤ a') (aq1 : a' ≤ 65535) (bq0 : 0 ≤ b') (bq1 : b' ≤ 65535) (cq0 : 0 ≤ c') (cq1 : c' ≤ 65535) (dq0 : 0 ≤ d') (dq1 : d' ≤ 65535) (eq0 : 0 ≤ e') (eq1 : e' ≤ 65535) :
    Calls Try.prog 16 #[.agg #[.int .u16 a, .int .u16 b, .int .u16 c, .int .u16 d, .int .u16 e], .agg #[.int .u16 a', .int .u16 b', .int .u16 c', .int .u16 d', .int .u16 e']] w fun r w' => r = .returned (.bool (alk a b c d e a' b' c' d' e')) ∧ Below w.heap.size w w' := by
  go_enter Try.func16, Try.ntmps16
  go_wp2_with fail
  go_loopw [5] (fun i wr => ∃ j : Nat, j ≤ 16 ∧ i = .int .i64 j ∧ (∀ k, k < j → alkAt a b c d e a' b' c' d' e' k) ∧ Hid (Pair w wr #[.int .u16 a, .int .u16 b, .int .u16 c, .int .u16 d, .int .u16 e] #[.int .u16 a', .int .u16 b', .int .u16 c', .int .u16 d', .int .u16 e'])) (fun i _ => 16 - (intOf i).toNat)
  case atStart => exact ⟨0, by omega, rfl, fun k hk => by omega, Pair.start w _ _⟩
  case round =>
    obtain ⟨j, hj, rfl, hok, hs⟩ := hrel
    have k0 := cells_of hs.out.r0
    have k1 := cells_of hs.out.r1
    by_cases hlt : j < 16
    · by_cases hS : bi e j = bi e' j
      · rcases bi_or e j with hv | hv
        · have hv' := hS.symm.trans hv
          by_cases hq0 : bi a j = bi a' j
          · by_cases hq1 : bi b j = bi b' j
            · by_cases hq2 : bi c j = bi c' j
              · by_cases hq3 : bi d j = bi d' j
                · have hat : alkAt a b c d e a' b' c' d' e' j := ⟨hS, fun _ => ⟨hq0, hq1, hq2, hq3⟩⟩
                  go_wp2_with fail
                  go_quiet (first | (go_at_call_of 22 (Value.int IntKind.u16 e); first | exact Calls.quiet_of_same (bit_eq e j 0 _ e0 e1 hlt hv) | exact quiet_of_same2 (bit_eq e j 0 _ e0 e1 hlt hv)) | (go_at_call_of 22 (Value.int IntKind.u16 e'); first | exact Calls.quiet_of_same (bit_eq e' j 0 _ eq0 eq1 hlt hv') | exact quiet_of_same2 (bit_eq e' j 0 _ eq0 eq1 hlt hv')))
                  go_wp2_with fail
                  go_quiet (first | (go_at_call_of 22 (Value.int IntKind.u16 a); first | exact Calls.quiet_of_same (bit_eq a j (bi a j) _ a0 a1 hlt rfl) | exact quiet_of_same2 (bit_eq a j (bi a j) _ a0 a1 hlt rfl)) | (go_at_call_of 22 (Value.int IntKind.u16 b); first | exact Calls.quiet_of_same (bit_eq b j (bi b j) _ b0 b1 hlt rfl) | exact quiet_of_same2 (bit_eq b j (bi b j) _ b0 b1 hlt rfl)) | (go_at_call_of 22 (Value.int IntKind.u16 c); first | exact Calls.quiet_of_same (bit_eq c j (bi c j) _ c0 c1 hlt rfl) | exact quiet_of_same2 (bit_eq c j (bi c j) _ c0 c1 hlt rfl)) | (go_at_call_of 22 (Value.int IntKind.u16 d); first | exact Calls.quiet_of_same (bit_eq d j (bi d j) _ d0 d1 hlt rfl) | exact quiet_of_same2 (bit_eq d j (bi d j) _ d0 d1 hlt rfl)) | (go_at_call_of 22 (Value.int IntKind.u16 e); first | exact Calls.quiet_of_same (bit_eq e j 0 _ e0 e1 hlt hv) | exact quiet_of_same2 (bit_eq e j 0 _ e0 e1 hlt hv)) | (go_at_call_of 22 (Value.int IntKind.u16 a'); first | exact Calls.quiet_of_same (bit_eq a' j (bi a j) _ aq0 aq1 hlt hq0.symm) | exact quiet_of_same2 (bit_eq a' j (bi a j) _ aq0 aq1 hlt hq0.symm)) | (go_at_call_of 22 (Value.int IntKind.u16 b'); first | exact Calls.quiet_of_same (bit_eq b' j (bi b j) _ bq0 bq1 hlt hq1.symm) | exact quiet_of_same2 (bit_eq b' j (bi b j) _ bq0 bq1 hlt hq1.symm)) | (go_at_call_of 22 (Value.int IntKind.u16 c'); first | exact Calls.quiet_of_same (bit_eq c' j (bi c j) _ cq0 cq1 hlt hq2.symm) | exact quiet_of_same2 (bit_eq c' j (bi c j) _ cq0 cq1 hlt hq2.symm)) | (go_at_call_of 22 (Value.int IntKind.u16 d'); first | exact Calls.quiet_of_same (bit_eq d' j (bi d j) _ dq0 dq1 hlt hq3.symm) | exact quiet_of_same2 (bit_eq d' j (bi d j) _ dq0 dq1 hlt hq3.symm)) | (go_at_call_of 22 (Value.int IntKind.u16 e'); first | exact Calls.quiet_of_same (bit_eq e' j 0 _ eq0 eq1 hlt hv') | exact quiet_of_same2 (bit_eq e' j 0 _ eq0 eq1 hlt hv')))
                  go_wp2_with fail
                  go_roundw
                  case rel => exact ⟨j + 1, by omega, by go_num, fun k hk => by rcases Nat.lt_or_ge k j with q | q; exact hok k q; obtain rfl : k = j := (by omega); exact hat, (by first | exact hs.out.dr.dr | exact (hs.out.dn _).dn _ | exact hs.out.dn _)⟩
                  case measure => simp [intOf]; omega
                · have hf : alk a b c d e a' b' c' d' e' = false := Bool.eq_false_iff.2 fun q => hq3 (((alk_iff a b c d e a' b' c' d' e').1 q j hlt).2 hv).2.2.2
                  rcases bi_ne hq3 with ⟨y0, y1⟩ | ⟨y0, y1⟩
                  · go_wp2_with fail
                    go_quiet (first | (go_at_call_of 22 (Value.int IntKind.u16 e); first | exact Calls.quiet_of_same (bit_eq e j 0 _ e0 e1 hlt hv) | exact quiet_of_same2 (bit_eq e j 0 _ e0 e1 hlt hv)) | (go_at_call_of 22 (Value.int IntKind.u16 e'); first | exact Calls.quiet_of_same (bit_eq e' j 0 _ eq0 eq1 hlt hv') | exact quiet_of_same2 (bit_eq e' j 0 _ eq0 eq1 hlt hv')))
                    go_wp2_with fail
                    go_quiet (first | (go_at_call_of 22 (Value.int IntKind.u16 a); first | exact Calls.quiet_of_same (bit_eq a j (bi a j) _ a0 a1 hlt rfl) | exact quiet_of_same2 (bit_eq a j (bi a j) _ a0 a1 hlt rfl)) | (go_at_call_of 22 (Value.int IntKind.u16 b); first | exact Calls.quiet_of_same (bit_eq b j (bi b j) _ b0 b1 hlt rfl) | exact quiet_of_same2 (bit_eq b j (bi b j) _ b0 b1 hlt rfl)) | (go_at_call_of 22 (Value.int IntKind.u16 c); first | exact Calls.quiet_of_same (bit_eq c j (bi c j) _ c0 c1 hlt rfl) | exact quiet_of_same2 (bit_eq c j (bi c j) _ c0 c1 hlt rfl)) | (go_at_call_of 22 (Value.int IntKind.u16 d); first | exact Calls.quiet_of_same (bit_eq d j 0 _ d0 d1 hlt y0) | exact quiet_of_same2 (bit_eq d j 0 _ d0 d1 hlt y0)) | (go_at_call_of 22 (Value.int IntKind.u16 e); first | exact Calls.quiet_of_same (bit_eq e j 0 _ e0 e1 hlt hv) | exact quiet_of_same2 (bit_eq e j 0 _ e0 e1 hlt hv)) | (go_at_call_of 22 (Value.int IntKind.u16 a'); first | exact Calls.quiet_of_same (bit_eq a' j (bi a j) _ aq0 aq1 hlt hq0.symm) | exact quiet_of_same2 (bit_eq a' j (bi a j) _ aq0 aq1 hlt hq0.symm)) | (go_at_call_of 22 (Value.int IntKind.u16 b'); first | exact Calls.quiet_of_same (bit_eq b' j (bi b j) _ bq0 bq1 hlt hq1.symm) | exact quiet_of_same2 (bit_eq b' j (bi b j) _ bq0 bq1 hlt hq1.symm)) | (go_at_call_of 22 (Value.int IntKind.u16 c'); first | exact Calls.quiet_of_same (bit_eq c' j (bi c j) _ cq0 cq1 hlt hq2.symm) | exact quiet_of_same2 (bit_eq c' j (bi c j) _ cq0 cq1 hlt hq2.symm)) | (go_at_call_of 22 (Value.int IntKind.u16 d'); first | exact Calls.quiet_of_same (bit_eq d' j 1 _ dq0 dq1 hlt y1) | exact quiet_of_same2 (bit_eq d' j 1 _ dq0 dq1 hlt y1)) | (go_at_call_of 22 (Value.int IntKind.u16 e'); first | exact Calls.quiet_of_same (bit_eq e' j 0 _ eq0 eq1 hlt hv') | exact quiet_of_same2 (bit_eq e' j 0 _ eq0 eq1 hlt hv')))
                    go_wp2_with fail
                    go_ret
                    exact ⟨by rw [hf]; first | done | rfl, (by first | exact hs.out.dr.below | exact hs.out.dr.dr.below | exact (hs.out.dn _).below | exact ((hs.out.dn _).dn _).below)⟩
                  · go_wp2_with fail
                    go_quiet (first | (go_at_call_of 22 (Value.int IntKind.u16 e); first | exact Calls.quiet_of_same (bit_eq e j 0 _ e0 e1 hlt hv) | exact quiet_of_same2 (bit_eq e j 0 _ e0 e1 hlt hv)) | (go_at_call_of 22 (Value.int IntKind.u16 e'); first | exact Calls.quiet_of_same (bit_eq e' j 0 _ eq0 eq1 hlt hv') | exact quiet_of_same2 (bit_eq e' j 0 _ eq0 eq1 hlt hv')))
                    go_wp2_with fail
                    go_quiet (first | (go_at_call_of 22 (Value.int IntKind.u16 a); first | exact Calls.quiet_of_same (bit_eq a j (bi a j) _ a0 a1 hlt rfl) | exact quiet_of_same2 (bit_eq a j (bi a j) _ a0 a1 hlt rfl)) | (go_at_call_of 22 (Value.int IntKind.u16 b); first | exact Calls.quiet_of_same (bit_eq b j (bi b j) _ b0 b1 hlt rfl) | exact quiet_of_same2 (bit_eq b j (bi b j) _ b0 b1 hlt rfl)) | (go_at_call_of 22 (Value.int IntKind.u16 c); first | exact Calls.quiet_of_same (bit_eq c j (bi c j) _ c0 c1 hlt rfl) | exact quiet_of_same2 (bit_eq c j (bi c j) _ c0 c1 hlt rfl)) | (go_at_call_of 22 (Value.int IntKind.u16 d); first | exact Calls.quiet_of_same (bit_eq d j 1 _ d0 d1 hlt y0) | exact quiet_of_same2 (bit_eq d j 1 _ d0 d1 hlt y0)) | (go_at_call_of 22 (Value.int IntKind.u16 e); first | exact Calls.quiet_of_same (bit_eq e j 0 _ e0 e1 hlt hv) | exact quiet_of_same2 (bit_eq e j 0 _ e0 e1 hlt hv)) | (go_at_call_of 22 (Value.int IntKind.u16 a'); first | exact Calls.quiet_of_same (bit_eq a' j (bi a j) _ aq0 aq1 hlt hq0.symm) | exact quiet_of_same2 (bit_eq a' j (bi a j) _ aq0 aq1 hlt hq0.symm)) | (go_at_call_of 22 (Value.int IntKind.u16 b'); first | exact Calls.quiet_of_same (bit_eq b' j (bi b j) _ bq0 bq1 hlt hq1.symm) | exact quiet_of_same2 (bit_eq b' j (bi b j) _ bq0 bq1 hlt hq1.symm)) | (go_at_call_of 22 (Value.int IntKind.u16 c'); first | exact Calls.quiet_of_same (bit_eq c' j (bi c j) _ cq0 cq1 hlt hq2.symm) | exact quiet_of_same2 (bit_eq c' j (bi c j) _ cq0 cq1 hlt hq2.symm)) | (go_at_call_of 22 (Value.int IntKind.u16 d'); first | exact Calls.quiet_of_same (bit_eq d' j 0 _ dq0 dq1 hlt y1) | exact quiet_of_same2 (bit_eq d' j 0 _ dq0 dq1 hlt y1)) | (go_at_call_of 22 (Value.int IntKind.u16 e'); first | exact Calls.quiet_of_same (bit_eq e' j 0 _ eq0 eq1 hlt hv') | exact quiet_of_same2 (bit_eq e' j 0 _ eq0 eq1 hlt hv')))
                    go_wp2_with fail
                    go_ret
                    exact ⟨by rw [hf]; first | done | rfl, (by first | exact hs.out.dr.below | exact hs.out.dr.dr.below | exact (hs.out.dn _).below | exact ((hs.out.dn _).dn _).below)⟩
              · have hf : alk a b c d e a' b' c' d' e' = false := Bool.eq_false_iff.2 fun q => hq2 (((alk_iff a b c d e a' b' c' d' e').1 q j hlt).2 hv).2.2.1
                rcases bi_ne hq2 with ⟨y0, y1⟩ | ⟨y0, y1⟩
                · go_wp2_with fail
                  go_quiet (first | (go_at_call_of 22 (Value.int IntKind.u16 e); first | exact Calls.quiet_of_same (bit_eq e j 0 _ e0 e1 hlt hv) | exact quiet_of_same2 (bit_eq e j 0 _ e0 e1 hlt hv)) | (go_at_call_of 22 (Value.int IntKind.u16 e'); first | exact Calls.quiet_of_same (bit_eq e' j 0 _ eq0 eq1 hlt hv') | exact quiet_of_same2 (bit_eq e' j 0 _ eq0 eq1 hlt hv')))
                  go_wp2_with fail
                  go_quiet (first | (go_at_call_of 22 (Value.int IntKind.u16 a); first | exact Calls.quiet_of_same (bit_eq a j (bi a j) _ a0 a1 hlt rfl) | exact quiet_of_same2 (bit_eq a j (bi a j) _ a0 a1 hlt rfl)) | (go_at_call_of 22 (Value.int IntKind.u16 b); first | exact Calls.quiet_of_same (bit_eq b j (bi b j) _ b0 b1 hlt rfl) | exact quiet_of_same2 (bit_eq b j (bi b j) _ b0 b1 hlt rfl)) | (go_at_call_of 22 (Value.int IntKind.u16 c); first | exact Calls.quiet_of_same (bit_eq c j 0 _ c0 c1 hlt y0) | exact quiet_of_same2 (bit_eq c j 0 _ c0 c1 hlt y0)) | (go_at_call_of 22 (Value.int IntKind.u16 e); first | exact Calls.quiet_of_same (bit_eq e j 0 _ e0 e1 hlt hv) | exact quiet_of_same2 (bit_eq e j 0 _ e0 e1 hlt hv)) | (go_at_call_of 22 (Value.int IntKind.u16 a'); first | exact Calls.quiet_of_same (bit_eq a' j (bi a j) _ aq0 aq1 hlt hq0.symm) | exact quiet_of_same2 (bit_eq a' j (bi a j) _ aq0 aq1 hlt hq0.symm)) | (go_at_call_of 22 (Value.int IntKind.u16 b'); first | exact Calls.quiet_of_same (bit_eq b' j (bi b j) _ bq0 bq1 hlt hq1.symm) | exact quiet_of_same2 (bit_eq b' j (bi b j) _ bq0 bq1 hlt hq1.symm)) | (go_at_call_of 22 (Value.int IntKind.u16 c'); first | exact Calls.quiet_of_same (bit_eq c' j 1 _ cq0 cq1 hlt y1) | exact quiet_of_same2 (bit_eq c' j 1 _ cq0 cq1 hlt y1)) | (go_at_call_of 22 (Value.int IntKind.u16 e'); first | exact Calls.quiet_of_same (bit_eq e' j 0 _ eq0 eq1 hlt hv') | exact quiet_of_same2 (bit_eq e' j 0 _ eq0 eq1 hlt hv')))
                  go_wp2_with fail
                  go_ret
                  exact ⟨by rw [hf]; first | done | rfl, (by first | exact hs.out.dr.below | exact hs.out.dr.dr.below | exact (hs.out.dn _).below | exact ((hs.out.dn _).dn _).below)⟩
                · go_wp2_with fail
                  go_quiet (first | (go_at_call_of 22 (Value.int IntKind.u16 e); first | exact Calls.quiet_of_same (bit_eq e j 0 _ e0 e1 hlt hv) | exact quiet_of_same2 (bit_eq e j 0 _ e0 e1 hlt hv)) | (go_at_call_of 22 (Value.int IntKind.u16 e'); first | exact Calls.quiet_of_same (bit_eq e' j 0 _ eq0 eq1 hlt hv') | exact quiet_of_same2 (bit_eq e' j 0 _ eq0 eq1 hlt hv')))
                  go_wp2_with fail
                  go_quiet (first | (go_at_call_of 22 (Value.int IntKind.u16 a); first | exact Calls.quiet_of_same (bit_eq a j (bi a j) _ a0 a1 hlt rfl) | exact quiet_of_same2 (bit_eq a j (bi a j) _ a0 a1 hlt rfl)) | (go_at_call_of 22 (Value.int IntKind.u16 b); first | exact Calls.quiet_of_same (bit_eq b j (bi b j) _ b0 b1 hlt rfl) | exact quiet_of_same2 (bit_eq b j (bi b j) _ b0 b1 hlt rfl)) | (go_at_call_of 22 (Value.int IntKind.u16 c); first | exact Calls.quiet_of_same (bit_eq c j 1 _ c0 c1 hlt y0) | exact quiet_of_same2 (bit_eq c j 1 _ c0 c1 hlt y0)) | (go_at_call_of 22 (Value.int IntKind.u16 e); first | exact Calls.quiet_of_same (bit_eq e j 0 _ e0 e1 hlt hv) | exact quiet_of_same2 (bit_eq e j 0 _ e0 e1 hlt hv)) | (go_at_call_of 22 (Value.int IntKind.u16 a'); first | exact Calls.quiet_of_same (bit_eq a' j (bi a j) _ aq0 aq1 hlt hq0.symm) | exact quiet_of_same2 (bit_eq a' j (bi a j) _ aq0 aq1 hlt hq0.symm)) | (go_at_call_of 22 (Value.int IntKind.u16 b'); first | exact Calls.quiet_of_same (bit_eq b' j (bi b j) _ bq0 bq1 hlt hq1.symm) | exact quiet_of_same2 (bit_eq b' j (bi b j) _ bq0 bq1 hlt hq1.symm)) | (go_at_call_of 22 (Value.int IntKind.u16 c'); first | exact Calls.quiet_of_same (bit_eq c' j 0 _ cq0 cq1 hlt y1) | exact quiet_of_same2 (bit_eq c' j 0 _ cq0 cq1 hlt y1)) | (go_at_call_of 22 (Value.int IntKind.u16 e'); first | exact Calls.quiet_of_same (bit_eq e' j 0 _ eq0 eq1 hlt hv') | exact quiet_of_same2 (bit_eq e' j 0 _ eq0 eq1 hlt hv')))
                  go_wp2_with fail
                  go_ret
                  exact ⟨by rw [hf]; first | done | rfl, (by first | exact hs.out.dr.below | exact hs.out.dr.dr.below | exact (hs.out.dn _).below | exact ((hs.out.dn _).dn _).below)⟩
            · have hf : alk a b c d e a' b' c' d' e' = false := Bool.eq_false_iff.2 fun q => hq1 (((alk_iff a b c d e a' b' c' d' e').1 q j hlt).2 hv).2.1
              rcases bi_ne hq1 with ⟨y0, y1⟩ | ⟨y0, y1⟩
              · go_wp2_with fail
                go_quiet (first | (go_at_call_of 22 (Value.int IntKind.u16 e); first | exact Calls.quiet_of_same (bit_eq e j 0 _ e0 e1 hlt hv) | exact quiet_of_same2 (bit_eq e j 0 _ e0 e1 hlt hv)) | (go_at_call_of 22 (Value.int IntKind.u16 e'); first | exact Calls.quiet_of_same (bit_eq e' j 0 _ eq0 eq1 hlt hv') | exact quiet_of_same2 (bit_eq e' j 0 _ eq0 eq1 hlt hv')))
                go_wp2_with fail
                go_quiet (first | (go_at_call_of 22 (Value.int IntKind.u16 a); first | exact Calls.quiet_of_same (bit_eq a j (bi a j) _ a0 a1 hlt rfl) | exact quiet_of_same2 (bit_eq a j (bi a j) _ a0 a1 hlt rfl)) | (go_at_call_of 22 (Value.int IntKind.u16 b); first | exact Calls.quiet_of_same (bit_eq b j 0 _ b0 b1 hlt y0) | exact quiet_of_same2 (bit_eq b j 0 _ b0 b1 hlt y0)) | (go_at_call_of 22 (Value.int IntKind.u16 e); first | exact Calls.quiet_of_same (bit_eq e j 0 _ e0 e1 hlt hv) | exact quiet_of_same2 (bit_eq e j 0 _ e0 e1 hlt hv)) | (go_at_call_of 22 (Value.int IntKind.u16 a'); first | exact Calls.quiet_of_same (bit_eq a' j (bi a j) _ aq0 aq1 hlt hq0.symm) | exact quiet_of_same2 (bit_eq a' j (bi a j) _ aq0 aq1 hlt hq0.symm)) | (go_at_call_of 22 (Value.int IntKind.u16 b'); first | exact Calls.quiet_of_same (bit_eq b' j 1 _ bq0 bq1 hlt y1) | exact quiet_of_same2 (bit_eq b' j 1 _ bq0 bq1 hlt y1)) | (go_at_call_of 22 (Value.int IntKind.u16 e'); first | exact Calls.quiet_of_same (bit_eq e' j 0 _ eq0 eq1 hlt hv') | exact quiet_of_same2 (bit_eq e' j 0 _ eq0 eq1 hlt hv')))
                go_wp2_with fail
                go_ret
                exact ⟨by rw [hf]; first | done | rfl, (by first | exact hs.out.dr.below | exact hs.out.dr.dr.below | exact (hs.out.dn _).below | exact ((hs.out.dn _).dn _).below)⟩
              · go_wp2_with fail
                go_quiet (first | (go_at_call_of 22 (Value.int IntKind.u16 e); first | exact Calls.quiet_of_same (bit_eq e j 0 _ e0 e1 hlt hv) | exact quiet_of_same2 (bit_eq e j 0 _ e0 e1 hlt hv)) | (go_at_call_of 22 (Value.int IntKind.u16 e'); first | exact Calls.quiet_of_same (bit_eq e' j 0 _ eq0 eq1 hlt hv') | exact quiet_of_same2 (bit_eq e' j 0 _ eq0 eq1 hlt hv')))
                go_wp2_with fail
                go_quiet (first | (go_at_call_of 22 (Value.int IntKind.u16 a); first | exact Calls.quiet_of_same (bit_eq a j (bi a j) _ a0 a1 hlt rfl) | exact quiet_of_same2 (bit_eq a j (bi a j) _ a0 a1 hlt rfl)) | (go_at_call_of 22 (Value.int IntKind.u16 b); first | exact Calls.quiet_of_same (bit_eq b j 1 _ b0 b1 hlt y0) | exact quiet_of_same2 (bit_eq b j 1 _ b0 b1 hlt y0)) | (go_at_call_of 22 (Value.int IntKind.u16 e); first | exact Calls.quiet_of_same (bit_eq e j 0 _ e0 e1 hlt hv) | exact quiet_of_same2 (bit_eq e j 0 _ e0 e1 hlt hv)) | (go_at_call_of 22 (Value.int IntKind.u16 a'); first | exact Calls.quiet_of_same (bit_eq a' j (bi a j) _ aq0 aq1 hlt hq0.symm) | exact quiet_of_same2 (bit_eq a' j (bi a j) _ aq0 aq1 hlt hq0.symm)) | (go_at_call_of 22 (Value.int IntKind.u16 b'); first | exact Calls.quiet_of_same (bit_eq b' j 0 _ bq0 bq1 hlt y1) | exact quiet_of_same2 (bit_eq b' j 0 _ bq0 bq1 hlt y1)) | (go_at_call_of 22 (Value.int IntKind.u16 e'); first | exact Calls.quiet_of_same (bit_eq e' j 0 _ eq0 eq1 hlt hv') | exact quiet_of_same2 (bit_eq e' j 0 _ eq0 eq1 hlt hv')))
                go_wp2_with fail
                go_ret
                exact ⟨by rw [hf]; first | done | rfl, (by first | exact hs.out.dr.below | exact hs.out.dr.dr.below | exact (hs.out.dn _).below | exact ((hs.out.dn _).dn _).below)⟩
          · have hf : alk a b c d e a' b' c' d' e' = false := Bool.eq_false_iff.2 fun q => hq0 (((alk_iff a b c d e a' b' c' d' e').1 q j hlt).2 hv).1
            rcases bi_ne hq0 with ⟨y0, y1⟩ | ⟨y0, y1⟩
            · go_wp2_with fail
              go_quiet (first | (go_at_call_of 22 (Value.int IntKind.u16 e); first | exact Calls.quiet_of_same (bit_eq e j 0 _ e0 e1 hlt hv) | exact quiet_of_same2 (bit_eq e j 0 _ e0 e1 hlt hv)) | (go_at_call_of 22 (Value.int IntKind.u16 e'); first | exact Calls.quiet_of_same (bit_eq e' j 0 _ eq0 eq1 hlt hv') | exact quiet_of_same2 (bit_eq e' j 0 _ eq0 eq1 hlt hv')))
              go_wp2_with fail
              go_quiet (first | (go_at_call_of 22 (Value.int IntKind.u16 a); first | exact Calls.quiet_of_same (bit_eq a j 0 _ a0 a1 hlt y0) | exact quiet_of_same2 (bit_eq a j 0 _ a0 a1 hlt y0)) | (go_at_call_of 22 (Value.int IntKind.u16 e); first | exact Calls.quiet_of_same (bit_eq e j 0 _ e0 e1 hlt hv) | exact quiet_of_same2 (bit_eq e j 0 _ e0 e1 hlt hv)) | (go_at_call_of 22 (Value.int IntKind.u16 a'); first | exact Calls.quiet_of_same (bit_eq a' j 1 _ aq0 aq1 hlt y1) | exact quiet_of_same2 (bit_eq a' j 1 _ aq0 aq1 hlt y1)) | (go_at_call_of 22 (Value.int IntKind.u16 e'); first | exact Calls.quiet_of_same (bit_eq e' j 0 _ eq0 eq1 hlt hv') | exact quiet_of_same2 (bit_eq e' j 0 _ eq0 eq1 hlt hv')))
              go_wp2_with fail
              go_ret
              exact ⟨by rw [hf]; first | done | rfl, (by first | exact hs.out.dr.below | exact hs.out.dr.dr.below | exact (hs.out.dn _).below | exact ((hs.out.dn _).dn _).below)⟩
            · go_wp2_with fail
              go_quiet (first | (go_at_call_of 22 (Value.int IntKind.u16 e); first | exact Calls.quiet_of_same (bit_eq e j 0 _ e0 e1 hlt hv) | exact quiet_of_same2 (bit_eq e j 0 _ e0 e1 hlt hv)) | (go_at_call_of 22 (Value.int IntKind.u16 e'); first | exact Calls.quiet_of_same (bit_eq e' j 0 _ eq0 eq1 hlt hv') | exact quiet_of_same2 (bit_eq e' j 0 _ eq0 eq1 hlt hv')))
              go_wp2_with fail
              go_quiet (first | (go_at_call_of 22 (Value.int IntKind.u16 a); first | exact Calls.quiet_of_same (bit_eq a j 1 _ a0 a1 hlt y0) | exact quiet_of_same2 (bit_eq a j 1 _ a0 a1 hlt y0)) | (go_at_call_of 22 (Value.int IntKind.u16 e); first | exact Calls.quiet_of_same (bit_eq e j 0 _ e0 e1 hlt hv) | exact quiet_of_same2 (bit_eq e j 0 _ e0 e1 hlt hv)) | (go_at_call_of 22 (Value.int IntKind.u16 a'); first | exact Calls.quiet_of_same (bit_eq a' j 0 _ aq0 aq1 hlt y1) | exact quiet_of_same2 (bit_eq a' j 0 _ aq0 aq1 hlt y1)) | (go_at_call_of 22 (Value.int IntKind.u16 e'); first | exact Calls.quiet_of_same (bit_eq e' j 0 _ eq0 eq1 hlt hv') | exact quiet_of_same2 (bit_eq e' j 0 _ eq0 eq1 hlt hv')))
              go_wp2_with fail
              go_ret
              exact ⟨by rw [hf]; first | done | rfl, (by first | exact hs.out.dr.below | exact hs.out.dr.dr.below | exact (hs.out.dn _).below | exact ((hs.out.dn _).dn _).below)⟩
        · have hv' := hS.symm.trans hv
          have hat : alkAt a b c d e a' b' c' d' e' j := ⟨hS, fun q => by omega⟩
          go_wp2_with fail
          go_quiet (first | (go_at_call_of 22 (Value.int IntKind.u16 e); first | exact Calls.quiet_of_same (bit_eq e j 1 _ e0 e1 hlt hv) | exact quiet_of_same2 (bit_eq e j 1 _ e0 e1 hlt hv)) | (go_at_call_of 22 (Value.int IntKind.u16 e'); first | exact Calls.quiet_of_same (bit_eq e' j 1 _ eq0 eq1 hlt hv') | exact quiet_of_same2 (bit_eq e' j 1 _ eq0 eq1 hlt hv')))
          go_wp2_with fail
          go_quiet (first | (go_at_call_of 22 (Value.int IntKind.u16 e); first | exact Calls.quiet_of_same (bit_eq e j 1 _ e0 e1 hlt hv) | exact quiet_of_same2 (bit_eq e j 1 _ e0 e1 hlt hv)) | (go_at_call_of 22 (Value.int IntKind.u16 e'); first | exact Calls.quiet_of_same (bit_eq e' j 1 _ eq0 eq1 hlt hv') | exact quiet_of_same2 (bit_eq e' j 1 _ eq0 eq1 hlt hv')))
          go_wp2_with fail
          go_roundw
          case rel => exact ⟨j + 1, by omega, by go_num, fun k hk => by rcases Nat.lt_or_ge k j with q | q; exact hok k q; obtain rfl : k = j := (by omega); exact hat, (by first | exact hs.out.dr.dr | exact (hs.out.dn _).dn _ | exact hs.out.dn _)⟩
          case measure => simp [intOf]; omega
      · have hf : alk a b c d e a' b' c' d' e' = false := Bool.eq_false_iff.2 fun q => hS ((alk_iff a b c d e a' b' c' d' e').1 q j hlt).1
        rcases bi_ne hS with ⟨hv, hv'⟩ | ⟨hv, hv'⟩
        · go_wp2_with fail
          go_quiet (first | (go_at_call_of 22 (Value.int IntKind.u16 e); first | exact Calls.quiet_of_same (bit_eq e j 0 _ e0 e1 hlt hv) | exact quiet_of_same2 (bit_eq e j 0 _ e0 e1 hlt hv)) | (go_at_call_of 22 (Value.int IntKind.u16 e'); first | exact Calls.quiet_of_same (bit_eq e' j 1 _ eq0 eq1 hlt hv') | exact quiet_of_same2 (bit_eq e' j 1 _ eq0 eq1 hlt hv')))
          go_wp2_with fail
          go_ret
          exact ⟨by rw [hf]; first | done | rfl, (by first | exact hs.out.dr.below | exact hs.out.dr.dr.below | exact (hs.out.dn _).below | exact ((hs.out.dn _).dn _).below)⟩
        · go_wp2_with fail
          go_quiet (first | (go_at_call_of 22 (Value.int IntKind.u16 e); first | exact Calls.quiet_of_same (bit_eq e j 1 _ e0 e1 hlt hv) | exact quiet_of_same2 (bit_eq e j 1 _ e0 e1 hlt hv)) | (go_at_call_of 22 (Value.int IntKind.u16 e'); first | exact Calls.quiet_of_same (bit_eq e' j 0 _ eq0 eq1 hlt hv') | exact quiet_of_same2 (bit_eq e' j 0 _ eq0 eq1 hlt hv')))
          go_wp2_with fail
          go_ret
          exact ⟨by rw [hf]; first | done | rfl, (by first | exact hs.out.dr.below | exact hs.out.dr.dr.below | exact (hs.out.dn _).below | exact ((hs.out.dn _).dn _).below)⟩
    · obtain rfl : j = 16 := by omega
      have hf : alk a b c d e a' b' c' d' e' = true := (alk_iff a b c d e a' b' c' d' e').2 hok
      go_wp2_with fail
      go_ret
      exact ⟨by rw [hf]; first | done | rfl, (by first | exact hs.out.below | exact hs.out.dr.below | exact (hs.out.dn _).below)⟩
end Go.Proofs.Ytnmobjjinidmiaa
