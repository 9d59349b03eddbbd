/- Plain laws on a tile's numbers: shifting and telling. -/
import Derived.Test.YtnmobjjinidmiaaB
namespace Go.Proofs.Ytnmobjjinidmiaa
open Go.RowKit
theorem quo8 (u : Int) (h0 : 0 ≤ u) (h1 : u ≤ 255) : IntKind.u8.wrap (u.tdiv 8) = u / 8 := by
  rw [Int.tdiv_eq_ediv_of_nonneg h0, IntWalk.u8_in _ (by omega)]
theorem sh_bd' (a : Int) : 0 ≤ sh a ∧ sh a ≤ 65535 := sh_bd a
theorem shn_bd (k : Nat) (a : Int) (h0 : 0 ≤ a) (h1 : a ≤ 65535) : 0 ≤ shn k a ∧ shn k a ≤ 65535 := by
  cases k with
  | zero => exact ⟨h0, h1⟩
  | succ k => exact sh_bd _
theorem bt_fine (k : Nat) (hk : k < 8) (a : Int) (_h0 : 0 ≤ a) (_h1 : a ≤ 65535) : bt (shn k a) 0 = bt a k := by
  have e : k = 0 ∨ k = 1 ∨ k = 2 ∨ k = 3 ∨ k = 4 ∨ k = 5 ∨ k = 6 ∨ k = 7 := by omega
  rcases e with rfl | rfl | rfl | rfl | rfl | rfl | rfl | rfl
  all_goals
    simp [bt, shn, sh]
    try omega
theorem bt_mod (a x y : Int) (h : x % 8 = y % 8) : bt a x = bt a y := by
  unfold bt
  rw [h]
theorem dv_fine (k : Nat) (hk : k < 8) (a b c d : Int) (a0 : 0 ≤ a) (a1 : a ≤ 65535) (b0 : 0 ≤ b) (b1 : b ≤ 65535) (c0 : 0 ≤ c) (c1 : c ≤ 65535) (d0 : 0 ≤ d) (d1 : d ≤ 65535) : dv (shn k a) (shn k b) (shn k c) (shn k d) 0 = dv a b c d k := by
  unfold dv
  rw [bt_fine k hk a a0 a1, bt_fine k hk b b0 b1, bt_fine k hk c c0 c1, bt_fine k hk d d0 d1]
theorem ds_fine (k : Nat) (hk : k < 8) (e : Int) (e0 : 0 ≤ e) (e1 : e ≤ 65535) : ds (shn k e) 0 = ds e k := by
  unfold ds
  rw [bt_fine k hk e e0 e1]
theorem dv_mod (a b c d x y : Int) (h : x % 8 = y % 8) : dv a b c d x = dv a b c d y := by
  unfold dv
  rw [bt_mod a x y h, bt_mod b x y h, bt_mod c x y h, bt_mod d x y h]
theorem ds_mod (e x y : Int) (h : x % 8 = y % 8) : ds e x = ds e y := by
  unfold ds
  rw [bt_mod e x y h]
end Go.Proofs.Ytnmobjjinidmiaa
