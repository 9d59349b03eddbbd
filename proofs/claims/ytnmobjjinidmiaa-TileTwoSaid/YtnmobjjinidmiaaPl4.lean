/- Plain laws: two rows, one behind the other; and what is kept while they come out. -/
import Derived.Test.YtnmobjjinidmiaaPl3
import Derived.Test.YtnmobjjinidmiaaA
namespace Go.Proofs.Ytnmobjjinidmiaa
open Go.RowKit
theorem bt_two1 (j : Nat) (hj : j < 8) (a v x : Int) (v0 : 0 ≤ v) (v1 : v ≤ 255) (x0 : 0 ≤ x) (x1 : x ≤ 255) : bt (shn j (ld (shn 8 (ld a v)) x)) 0 = ob v j := by
  have e : j = 0 ∨ j = 1 ∨ j = 2 ∨ j = 3 ∨ j = 4 ∨ j = 5 ∨ j = 6 ∨ j = 7 := by omega
  rcases e with rfl | rfl | rfl | rfl | rfl | rfl | rfl | rfl
  all_goals
    simp [bt, shn, sh, ld, ob]
    omega
theorem come_dv2 (j : Nat) (hj : j < 8) (a b c d lv hv ti : Int) (x y z t : Int) (l0 : 0 ≤ lv) (l1 : lv ≤ 255) (h0 : 0 ≤ hv) (h1 : hv ≤ 255) (x0 : 0 ≤ x) (x1 : x ≤ 255) (y0 : 0 ≤ y) (y1 : y ≤ 255) (z0 : 0 ≤ z) (z1 : z ≤ 255) (t0 : 0 ≤ t) (t1 : t ≤ 255) :
    dv (shn j (ld (shn 8 (ld a lv)) x)) (shn j (ld (shn 8 (ld b hv)) y)) (shn j (ld (shn 8 (ld c (spr (ti % 2 == 1)))) z)) (shn j (ld (shn 8 (ld d (spr (ti / 2 % 2 == 1)))) t)) 0 = ob lv j + ob hv j * 2 + ti % 4 * 4 := by
  obtain ⟨p0, p1⟩ := spr_bd (ti % 2 == 1)
  obtain ⟨q0, q1⟩ := spr_bd (ti / 2 % 2 == 1)
  unfold dv
  rw [bt_two1 j hj a lv x l0 l1 x0 x1, bt_two1 j hj b hv y h0 h1 y0 y1, bt_two1 j hj c _ z p0 p1 z0 z1, bt_two1 j hj d _ t q0 q1 t0 t1, ob_spr _ j hj, ob_spr _ j hj]
  by_cases e1 : ti % 2 = 1 <;> by_cases e2 : ti / 2 % 2 = 1 <;> simp [e1, e2] <;> omega
theorem come_ds2 (j : Nat) (hj : j < 8) (e x : Int) (s : Bool) (x0 : 0 ≤ x) (x1 : x ≤ 255) : ds (shn j (ld (shn 8 (ld e (spr s))) x)) 0 = s := by
  obtain ⟨p0, p1⟩ := spr_bd s
  unfold ds
  rw [bt_two1 j hj e _ x p0 p1 x0 x1, ob_spr s j hj]
  cases s <;> rfl
theorem tw_bd (i : Nat) (y x : Int) (x0 : 0 ≤ x) (x1 : x ≤ 255) : 0 ≤ shn i (ld (shn 8 y) x) ∧ shn i (ld (shn 8 y) x) ≤ 65535 := by
  obtain ⟨q0, q1⟩ := ld_bd (shn 8 y) x (shn8_bd 0 y).1 (shn8_bd 0 y).2 x0 x1
  exact shn_bd i _ q0 q1
/-- both boxes, and the tile, while rows come out -/
structure Tw (w x : World) (T : Nat) (bq bo : Array Value) (a b c d e : Int) : Prop where
  qbox : x.heap[w.heap.size]? = some (.cells bq 28 (0, 0))
  obox : x.heap[w.heap.size + 1]? = some (.cells bo 28 (0, 0))
  tile : Row5 x T a b c d e
  below : Below w.heap.size w x
  lt : w.heap.size + 1 < T
theorem Tw.call {w x y : World} {T : Nat} {bq bo : Array Value} {a b c d e : Int} (h : Tw w x T bq bo a b c d e) (z : Below x.heap.size x y) : Tw w y T bq bo a b c d e :=
  ⟨old_in h.qbox z, old_in h.obox z, old_in h.tile z, below_call h.below z, h.lt⟩
theorem Tw.drewN {w x : World} {T : Nat} {bq bo : Array Value} {a b c d e : Int} (h : Tw w x T bq bo a b c d e) (n : Nat) : Tw w (x.drewN n) T bq bo a b c d e :=
  ⟨h.qbox, h.obox, h.tile, ⟨h.below.os, h.below.tape, h.below.output, h.below.size, h.below.block⟩, h.lt⟩
theorem Tw.alloc {w x : World} {T : Nat} {bq bo : Array Value} {a b c d e : Int} (h : Tw w x T bq bo a b c d e) (o : Obj) : Tw w (x.alloc o) T bq bo a b c d e :=
  h.call ((Below.refl _ _).alloc (Nat.le_refl _) _)
theorem Tw.store {w x : World} {T : Nat} {bq bo : Array Value} {a b c d e : Int} (h : Tw w x T bq bo a b c d e) (a' b' c' d' e' : Int) :
    Tw w (x.setRow T #[.int .u16 a', .int .u16 b', .int .u16 c', .int .u16 d', .int .u16 e']) T bq bo a' b' c' d' e' := by
  have hlt := h.lt
  refine ⟨?_, ?_, setRow_heap _ _ _ _ _ _ h.tile, Below.setRow h.below (by omega) _, hlt⟩
  · rw [setRow_other _ _ _ _ (by omega)]
    exact h.qbox
  · rw [setRow_other _ _ _ _ (by omega)]
    exact h.obox
theorem one12 (a b c d e lv hv ti u : Int) (ls hs s : Bool) : (#[.int .u16 a, .int .u16 b, .int .u16 c, .int .u16 d, .int .u16 e, .int .u8 lv, .bool ls, .int .u8 hv, .bool hs, .int .u8 ti, .bool s, .int .u8 u] : Array Value).all (·.oneCell') = true := by kernel_rfl
end Go.Proofs.Ytnmobjjinidmiaa
