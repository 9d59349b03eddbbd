/- The contracts of the reference's small functions: bit, lower, eight, Shift, Dot. -/
import Derived.Test.YtnmobjjinidmiaaL
import Derived.Test.YtnmobjjinidmiaaPl2
import Derived.BigQuiet
import Derived.Deep.RegionWith
namespace Go.Proofs.Ytnmobjjinidmiaa
open Go.ChangeShapes Go.WideShapes Go.ChangeAt Go.RowKit
theorem below_dn {B : Nat} {a x : World} (h : Below B a x) (n : Nat) : Below B a (x.drewN n) := ⟨h.os, h.tape, h.output, h.size, h.block⟩
/-- bit number i of a number -/
def bi (n : Int) (i : Nat) : Int := n / 2 ^ i % 2
theorem bi_bd (n : Int) (i : Nat) : 0 ≤ bi n i ∧ bi n i ≤ 1 := by unfold bi; omega
theorem bit_any (n : Int) (i : Nat) (w : World) (n0 : 0 ≤ n) (n1 : n ≤ 65535) (hi : i < 16) :
    Calls Try.prog 22 #[.int .u16 n, .int .i64 i] w fun e w' => e = .returned (.int .i64 (bi n i)) ∧ w' = w := by
  obtain ⟨d0, d1⟩ := div_bd n i n0 n1
  unfold bi
  go_enter Try.func22, Try.ntmps22
  go_wp2
  go_ret
  exact ⟨rfl, rfl⟩
theorem lower_any (n v : Int) (w : World) (n0 : 0 ≤ n) (n1 : n ≤ 65535) (v0 : 0 ≤ v) (v1 : v ≤ 255) :
    Calls Try.prog 23 #[.int .u16 n, .int .i64 v] w fun e w' => e = .returned (.int .u16 (ld n v)) ∧ w' = w := by
  have hq : IntKind.u16.wrap (n.tdiv 256) = n / 256 := by rw [Int.tdiv_eq_ediv_of_nonneg n0, IntWalk.u16_in _ (by omega)]
  unfold ld
  go_enter Try.func23, Try.ntmps23
  go_wp2
  go_ret
  exact ⟨rfl, rfl⟩
theorem eight_any (b : Bool) (w : World) : Calls Try.prog 24 #[.bool b] w fun e w' => e = .returned (.int .i64 (spr b)) ∧ w' = w := by
  cases b
  all_goals
    go_enter Try.func24, Try.ntmps24
    go_wp2
    go_ret
    exact ⟨rfl, rfl⟩
theorem rshift_any (a b c d e : Int) (w : World) :
    Calls Try.prog 19 #[.agg #[.int .u16 a, .int .u16 b, .int .u16 c, .int .u16 d, .int .u16 e]] w fun r w' => r = .returned (.agg #[.int .u16 (sh a), .int .u16 (sh b), .int .u16 (sh c), .int .u16 (sh d), .int .u16 (sh e)]) ∧ Below w.heap.size w w' := by
  have hw := sh_w
  go_enter Try.func19, Try.ntmps19
  go_wp2
  exact bodyPost_ret (v := .agg #[.int .u16 (sh a), .int .u16 (sh b), .int .u16 (sh c), .int .u16 (sh d), .int .u16 (sh e)]) (by simp [results, Try.results19, go_sem]) rfl ⟨rfl, by go_grown⟩
set_option maxHeartbeats 1000000 in
theorem rdot_any (a b c d e x : Int) (w : World) (a0 : 0 ≤ a) (a1 : a ≤ 65535) (b0 : 0 ≤ b) (b1 : b ≤ 65535) (c0 : 0 ≤ c) (c1 : c ≤ 65535) (d0 : 0 ≤ d) (d1 : d ≤ 65535) (e0 : 0 ≤ e) (e1 : e ≤ 65535) (x0 : 0 ≤ x) (x1 : x ≤ 255) :
    Calls Try.prog 17 #[.agg #[.int .u16 a, .int .u16 b, .int .u16 c, .int .u16 d, .int .u16 e], .int .u8 x] w fun r w' => r = .returned (.tuple #[.int .u8 (dv a b c d x), .bool (ds e x)]) ∧ Below w.heap.size w w' := by
  obtain ⟨k, hk⟩ : ∃ k : Nat, 15 - x % 8 = k := ⟨(15 - x % 8).toNat, by omega⟩
  have hk16 : k < 16 := by omega
  have hdv : dv a b c d x = bi a k + 2 * bi b k + 4 * bi c k + 8 * bi d k := by
    unfold dv bt bi
    rw [hk]
    simp only [Int.toNat_natCast]
    omega
  have hds : ds e x = (bi e k == 1) := by
    unfold ds bt bi
    rw [hk]
    simp only [Int.toNat_natCast]
  rw [hdv, hds]
  clear hdv hds
  obtain ⟨p0, p1⟩ := bi_bd a k
  obtain ⟨q0, q1⟩ := bi_bd b k
  obtain ⟨r0, r1⟩ := bi_bd c k
  obtain ⟨s0, s1⟩ := bi_bd d k
  go_enter Try.func17, Try.ntmps17
  go_wp2_with fail
  go_quiet (first | (go_at_call_of 22 (Value.int IntKind.u16 a); exact Calls.quiet_of_same (bit_any a k _ a0 a1 hk16)) | (go_at_call_of 22 (Value.int IntKind.u16 b); exact Calls.quiet_of_same (bit_any b k _ b0 b1 hk16)) | (go_at_call_of 22 (Value.int IntKind.u16 c); exact Calls.quiet_of_same (bit_any c k _ c0 c1 hk16)) | (go_at_call_of 22 (Value.int IntKind.u16 d); exact Calls.quiet_of_same (bit_any d k _ d0 d1 hk16)) | (go_at_call_of 22 (Value.int IntKind.u16 e); exact Calls.quiet_of_same (bit_any e k _ e0 e1 hk16)))
  go_wp2
  go_ret2
  exact ⟨rfl, below_dn ((Below.refl _ _).alloc (Nat.le_refl _) _) _⟩
end Go.Proofs.Ytnmobjjinidmiaa
