/- Plain laws: what is loaded comes out eight dots later. -/
import Derived.Test.YtnmobjjinidmiaaPl2
namespace Go.Proofs.Ytnmobjjinidmiaa
open Go.RowKit
/-- bit number 7 - j of an octet -/
def ob (v : Int) (j : Nat) : Int := v / 2 ^ (7 - j) % 2
theorem ob_bd (v : Int) (j : Nat) : 0 ≤ ob v j ∧ ob v j ≤ 1 := by unfold ob; omega
theorem ob_w (v : Int) (j : Nat) (v0 : 0 ≤ v) (v1 : v ≤ 255) : bits .and .u8 (v / 2 ^ (7 - j)) 1 = ob v j := by
  obtain ⟨d0, _⟩ := div_bd v (7 - j) v0 (by omega)
  have d2 : v / 2 ^ (7 - j) ≤ 255 := Int.le_trans (Int.ediv_le_self _ v0) v1
  unfold ob
  obtain ⟨A, hA⟩ := Int.eq_ofNat_of_zero_le d0
  rw [hA]
  have := u8_and_nat A 1 (by omega) (by omega)
  rw [nat_mask1] at this
  simpa using this
theorem and3 (t : Int) (t0 : 0 ≤ t) (t1 : t ≤ 255) : bits .and .u8 t 3 = t % 4 := by
  obtain ⟨A, rfl⟩ := Int.eq_ofNat_of_zero_le t0
  have := u8_and_nat A 3 (by omega) (by omega)
  rw [nat_mask2] at this
  simpa using this
theorem or_want (p q r : Int) (hp : 0 ≤ p ∧ p ≤ 1) (hq : 0 ≤ q ∧ q ≤ 1) (hr : 0 ≤ r ∧ r ≤ 3) : bits .or .u8 p (q * 2) = p + q * 2 ∧ bits .or .u8 (p + q * 2) (r * 4) = p + q * 2 + r * 4 := by
  have e0 : p = 0 ∨ p = 1 := by omega
  have e1 : q = 0 ∨ q = 1 := by omega
  have e2 : r = 0 ∨ r = 1 ∨ r = 2 ∨ r = 3 := by omega
  clear hp hq hr
  rcases e0 with rfl | rfl <;> rcases e1 with rfl | rfl <;> rcases e2 with rfl | rfl | rfl | rfl <;> decide
theorem bt_come (j : Nat) (hj : j < 8) (a v : Int) (v0 : 0 ≤ v) (v1 : v ≤ 255) : bt (shn (8 + j) (ld a v)) 0 = ob v j := by
  have e : j = 0 ∨ j = 1 ∨ j = 2 ∨ j = 3 ∨ j = 4 ∨ j = 5 ∨ j = 6 ∨ j = 7 := by omega
  rcases e with rfl | rfl | rfl | rfl | rfl | rfl | rfl | rfl
  all_goals
    simp [bt, shn, sh, ld, ob]
    try omega
theorem ob_spr (x : Bool) (j : Nat) (hj : j < 8) : ob (spr x) j = if x then 1 else 0 := by
  have e : j = 0 ∨ j = 1 ∨ j = 2 ∨ j = 3 ∨ j = 4 ∨ j = 5 ∨ j = 6 ∨ j = 7 := by omega
  rcases e with rfl | rfl | rfl | rfl | rfl | rfl | rfl | rfl <;> cases x <;> decide
theorem come_dv (j : Nat) (hj : j < 8) (a b c d lv hv ti : Int) (l0 : 0 ≤ lv) (l1 : lv ≤ 255) (h0 : 0 ≤ hv) (h1 : hv ≤ 255) (_t0 : 0 ≤ ti) :
    dv (shn (8 + j) (ld a lv)) (shn (8 + j) (ld b hv)) (shn (8 + j) (ld c (spr (ti % 2 == 1)))) (shn (8 + j) (ld d (spr (ti / 2 % 2 == 1)))) 0 = ob lv j + ob hv j * 2 + ti % 4 * 4 := by
  obtain ⟨p0, p1⟩ := spr_bd (ti % 2 == 1)
  obtain ⟨q0, q1⟩ := spr_bd (ti / 2 % 2 == 1)
  unfold dv
  rw [bt_come j hj a lv l0 l1, bt_come j hj b hv h0 h1, bt_come j hj c _ p0 p1, bt_come j hj d _ q0 q1, ob_spr _ j hj, ob_spr _ j hj]
  by_cases x1 : ti % 2 = 1 <;> by_cases x2 : ti / 2 % 2 = 1 <;> simp [x1, x2] <;> omega
theorem come_ds (j : Nat) (hj : j < 8) (e : Int) (x : Bool) : ds (shn (8 + j) (ld e (spr x))) 0 = x := by
  obtain ⟨p0, p1⟩ := spr_bd x
  unfold ds
  rw [bt_come j hj e _ p0 p1, ob_spr x j hj]
  cases x <;> rfl
theorem shn8_bd (j : Nat) (a : Int) : 0 ≤ shn (8 + j) a ∧ shn (8 + j) a ≤ 65535 := by
  rw [show 8 + j = (7 + j) + 1 from by omega]
  exact sh_bd _
theorem come_zero (a v : Int) : shn 16 (ld a v) = 0 := by
  simp [shn, sh, ld]
  omega
end Go.Proofs.Ytnmobjjinidmiaa
