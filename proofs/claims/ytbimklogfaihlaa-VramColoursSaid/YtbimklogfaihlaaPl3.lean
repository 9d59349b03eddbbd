/- Plain facts on how often each palette place is told. -/
import Derived.Test.YtbimklogfaihlaaPl2
namespace Go.Proofs.Ytbimklogfaihlaa
open Go.RowKit
/-- how often place j was told by the first k addresses of palettes -/
def cn : Nat → Nat → Nat
  | 0, _ => 0
  | k + 1, j => cn k j + if (pl (16128 + (k : Int))).toNat = j then 1 else 0
theorem cn_le : ∀ k j, cn k j ≤ k
  | 0, _ => by simp [cn]
  | k + 1, j => by
    have := cn_le k j
    simp only [cn]
    split <;> omega
def wt (j : Nat) : Nat := if j = 0 ∨ j = 4 ∨ j = 8 ∨ j = 12 then 16 else if j = 16 ∨ j = 20 ∨ j = 24 ∨ j = 28 then 0 else 8
theorem cn_all : ∀ j, j < 32 → cn 256 j = wt j := by decide +kernel
def pc : Nat → Nat
  | 0 => 0
  | j + 1 => pc j + if wt j = 0 then 0 else 1
theorem pc_all : pc 32 = 28 := by decide
theorem pc_le : ∀ j, pc j ≤ j
  | 0 => by simp [pc]
  | j + 1 => by
    have := pc_le j
    simp only [pc]
    split <;> omega
theorem xor32 : ∀ n : Nat, n < 256 → bits .xor .u8 (n : Int) 32 = ((n ^^^ 32 : Nat) : Int) ∧ (n ^^^ 32) < 256 ∧ (n ^^^ 32) % 32 = n % 32 := by decide +kernel
theorem xor32i (a : Int) (h0 : 0 ≤ a) (h1 : a ≤ 255) : ∃ u : Int, bits .xor .u8 a 32 = u ∧ 0 ≤ u ∧ u ≤ 255 ∧ u % 32 = a % 32 := by
  obtain ⟨n, rfl⟩ := Int.eq_ofNat_of_zero_le h0
  obtain ⟨e1, e2, e3⟩ := xor32 n (by omega)
  exact ⟨_, e1, by omega, by omega, by omega⟩
/-- block B holds, in its first 32 cells, how often each place was told by the first k addresses; none of them is frozen -/
def Tab (B k : Nat) (w : World) : Prop := ∀ j, j < 32 → w.cell? ⟨B, j, none⟩ = some (.int .i64 (cn k j : Nat)) ∧ w.frozen? ⟨B, j, none⟩ = false
theorem Tab.next {B k q : Nat} {w : World} (h : Tab B k w) (hq : (pl (16128 + (k : Int))).toNat = q) (_hq2 : q < 32) (v : Int) (hv : v = (cn k q : Nat) + 1) :
    Tab B (k + 1) (w.setCell ⟨B, q, none⟩ (.int .i64 v)) := by
  intro j hj
  refine ⟨?_, by rw [World.frozen?_setCell]; exact (h j hj).2⟩
  by_cases e : q = j
  · subst e
    rw [World.cell?_setCell_same _ _ _ (h q hj).1, hv]
    simp [cn, hq]
  · rw [World.cell?_setCell_other _ _ _ _ (fun x => e (Addr.mk.inj x).2.1), (h j hj).1]
    simp [cn, hq, e]
theorem Tab.start (w : World) : Tab w.heap.size 0 (w.alloc (.cells (Array.replicate 32 (.int .i64 0)) 35)) := by
  intro j hj
  refine ⟨?_, ?_⟩
  · rw [World.cell?_alloc_new]
    simp [cn, hj]
  · rw [frozen?_alloc_cells]
    simp [World.frozen?]
end Go.Proofs.Ytbimklogfaihlaa
