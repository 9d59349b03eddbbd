/- Which opcodes are official, which are the end, and that no two official ones are of one name and one mode: of the tables, by the kernel. -/
import Derived.Test.YtbekiknbjpdchaaA
namespace Go.Proofs.Ytbekiknbjpdchaa
open Go.RowKit
set_option linter.unusedVariables false
/-- how many of the first n are official; how many are the end -/
def cG (N R : ByteArray) : Nat → Int
  | 0 => 0
  | n + 1 => if oG N R n = true then cG N R n + 1 else cG N R n
def cJ (M L : ByteArray) : Nat → Int
  | 0 => 0
  | n + 1 => if oM M L n = 20 then cJ M L n + 1 else cJ M L n
theorem cG_le (N R : ByteArray) (n : Nat) : 0 ≤ cG N R n ∧ cG N R n ≤ n := by
  induction n with
  | zero => exact ⟨Int.le_refl _, Int.le_refl _⟩
  | succ n ih => unfold cG; split <;> omega
theorem cJ_le (M L : ByteArray) (n : Nat) : 0 ≤ cJ M L n ∧ cJ M L n ≤ n := by
  induction n with
  | zero => exact ⟨Int.le_refl _, Int.le_refl _⟩
  | succ n ih => unfold cJ; split <;> omega
theorem all_G : cG (tableAt Try.f8 0) (tableAt Try.f8 3) 256 = 151 := by decide +kernel
theorem all_J : cJ (tableAt Try.f8 1) (tableAt Try.f8 2) 256 = 12 := by decide +kernel
/-- the end is not official, and its name is JAM, and no other's is -/
theorem all_jam : (List.range 256).all (fun i => (decide (oM (tableAt Try.f8 1) (tableAt Try.f8 2) i ≠ 20) || oG (tableAt Try.f8 0) (tableAt Try.f8 3) i == false) && (decide ((oS (tableAt Try.f8 0) i).data.toList = [74, 65, 77]) == decide (oM (tableAt Try.f8 1) (tableAt Try.f8 2) i = 20))) = true := by decide +kernel
/-- a name and a mode as one number -/
def key (N M L : ByteArray) (i : Nat) : Nat := ((oS N i).data.toList.foldl (fun a b => 256 * a + b.toNat) 0) * 32 + (oM M L i).toNat
def key2 (N M L R : ByteArray) (i : Nat) : Nat := if oG N R i = true then key N M L i + 256 else i
/-- no two numbers of a list are the same -/
def apart : List Nat → Bool
  | [] => true
  | a :: l => l.all (fun b => !Nat.beq a b) && apart l
theorem apart_at : ∀ (n : Nat) (f : Nat → Nat) (s : Nat), apart ((List.range' s n).map f) = true → ∀ i j, s ≤ i → i < j → j < s + n → f i ≠ f j
  | 0, f, s, _, i, j, _, _, _ => by omega
  | n + 1, f, s, h, i, j, h0, h1, h2 => by
    simp only [List.range'_succ, List.map_cons, apart, Bool.and_eq_true] at h
    rcases Nat.eq_or_lt_of_le h0 with rfl | h3
    · intro e
      have q := List.all_eq_true.1 h.1 (f j) (List.mem_map.2 ⟨j, List.mem_range'_1.2 ⟨by omega, by omega⟩, rfl⟩)
      rw [e] at q
      simp at q
    · exact apart_at n f (s + 1) h.2 i j h3 h1 (by omega)
theorem all_apart : apart ((List.range' 0 256).map (key2 (tableAt Try.f8 0) (tableAt Try.f8 1) (tableAt Try.f8 2) (tableAt Try.f8 3))) = true := by decide +kernel
theorem two_not (i j : Nat) (hi : i < 256) (hj : j < 256) (hn : i ≠ j) (g : oG (tableAt Try.f8 0) (tableAt Try.f8 3) i = true) (g' : oG (tableAt Try.f8 0) (tableAt Try.f8 3) j = true)
    (hs : oS (tableAt Try.f8 0) i = oS (tableAt Try.f8 0) j) : oM (tableAt Try.f8 1) (tableAt Try.f8 2) i ≠ oM (tableAt Try.f8 1) (tableAt Try.f8 2) j := by
  intro hm
  have e : key2 (tableAt Try.f8 0) (tableAt Try.f8 1) (tableAt Try.f8 2) (tableAt Try.f8 3) i = key2 (tableAt Try.f8 0) (tableAt Try.f8 1) (tableAt Try.f8 2) (tableAt Try.f8 3) j := by
    unfold key2 key
    rw [if_pos g, if_pos g', hs, hm]
  rcases Nat.lt_or_gt_of_ne hn with h | h
  · exact apart_at 256 _ 0 all_apart i j (Nat.zero_le _) h (by omega) e
  · exact apart_at 256 _ 0 all_apart j i (Nat.zero_le _) h (by omega) e.symm
end Go.Proofs.Ytbekiknbjpdchaa
