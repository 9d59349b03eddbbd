/- The contracts of the document's package: one, Name. -/
import Derived.Test.YtbekiknbjpdchaaE
namespace Go.Proofs.Ytbekiknbjpdchaa
open Go.ChangeShapes Go.WideShapes Go.ChangeAt Go.RowKit
set_option linter.unusedVariables false
theorem str_inj {a b : ByteArray} (h : a.toList = b.toList) : a = b := Go.WideShapes.bytes_inj (by rw [← ByteArray.toList_eq, ← ByteArray.toList_eq]; exact h)
/-- is a name among the first j names of three letters? -/
def ones (T s : ByteArray) : Nat → Bool
  | 0 => false
  | j + 1 => ones T s j || decide (nN T j = s)
theorem ones_more (T s : ByteArray) : ∀ (n j : Nat), j ≤ n → ones T s j = true → ones T s n = true
  | 0, j, h, q => by obtain rfl : j = 0 := by omega
                     exact q
  | n + 1, j, h, q => by
    rcases Nat.eq_or_lt_of_le h with rfl | h'
    · exact q
    · unfold ones
      rw [ones_more T s n j (by omega) q]
      rfl
set_option maxHeartbeats 1000000 in
theorem one_any (T s : ByteArray) (n : Nat) (hn : n < 1000) (hT : T.size = 4 * n) (w : World) : Calls Try.prog 23 #[.string T, .string s] w fun e w' => e = .returned (.bool (ones T s n)) ∧ w' = w := by
  go_enter Try.func23, Try.ntmps23
  go_wp2_with fail
  go_loop [5] (fun i => ∃ j : Nat, j ≤ n ∧ i = .int .i64 (4 * j) ∧ ones T s j = false) (fun i => 4 * n - (intOf i).toNat)
  case atStart => exact ⟨0, by omega, rfl, rfl⟩
  case round =>
    obtain ⟨j, hj, rfl, hs⟩ := hrel
    have e1 : IntKind.i64.wrap (4 * (j : Int)) = 4 * (j : Int) := IntWalk.i64_in _ (by omega)
    have e2 : IntKind.i64.wrap (4 * (j : Int) + 3) = 4 * (j : Int) + 3 := IntWalk.i64_in _ (by omega)
    have e3 : IntKind.i64.wrap (4 * (j : Int) + 4) = 4 * (j : Int) + 4 := IntWalk.i64_in _ (by omega)
    have t1 : (4 * (j : Int)).toNat = 4 * j := by omega
    have t2 : (4 * (j : Int) + 3).toNat = 4 * j + 3 := by omega
    by_cases hlt : j < n
    · have c0 : 4 * (j : Int) + 4 ≤ 4 * n := by omega
      have c1 : 0 ≤ 4 * (j : Int) + 3 := by omega
      have c2 : 4 * (j : Int) + 3 ≤ 4 * n := by omega
      have c3 : 0 ≤ 4 * (j : Int) := by omega
      have c4 : 4 * (j : Int) ≤ 4 * (j : Int) + 3 := by omega
      have Hs := Lib.hid hs
      clear hs
      go_wp2_with fail
      · have q : ((T.extract (4 * j) (4 * j + 3)).toList == s.toList) = true := by assumption
        have e : ones T s n = true := by
          refine ones_more T s n (j + 1) (by omega) ?_
          unfold ones nN
          rw [str_inj (eq_of_beq q)]
          simp
        go_ret
        exact ⟨by rw [e]; rfl, rfl⟩
      · have q : ((T.extract (4 * j) (4 * j + 3)).toList == s.toList) = false := by assumption
        have hs' : ones T s (j + 1) = false := by
          have hx : ¬ T.extract (4 * j) (4 * j + 3) = s := by
            intro hx
            rw [hx] at q
            simp at q
          unfold ones nN
          rw [Hs.out]
          simp [hx]
        go_round
        case rel => exact ⟨j + 1, by omega, by go_num, hs'⟩
        case measure => simp [intOf]; omega
    · obtain rfl : j = n := by omega
      have He := Lib.hid hs
      clear hs
      go_wp2_with fail
      go_ret
      exact ⟨by rw [He.out]; rfl, rfl⟩
theorem nth_at (T' T : ByteArray) (h : T' = T) (hT : T.size = 32) (q : Int) (a : Nat) (hq : q = a) (ha : a < 8) (w : World) : Calls Try.prog 34 #[.string T', .int .i64 q] w fun e w' => e = .returned (.string (nN T a)) ∧ w' = w := by
  subst h hq
  exact nth_any T' hT a ha w
theorem zeroN_int (p q : Int) (a b : Nat) (hp : p = a) (hq : q = b) (ha : a < 8) (hb : b < 8) (w : World) : Calls Try.prog 31 #[.int .i64 p, .int .i64 q] w fun e w' => e = .returned (.string (zeroN (tableAt Try.f31) a b)) ∧ w' = w := by
  subst hp hq
  exact zeroN_any a b ha hb w
theorem twoN_int (p q : Int) (a b : Nat) (hp : p = a) (hq : q = b) (ha : a < 8) (hb : b < 8) (w : World) : Calls Try.prog 32 #[.int .i64 p, .int .i64 q] w fun e w' => e = .returned (.string (twoN (tableAt Try.f32) a b)) ∧ w' = w := by
  subst hp hq
  exact twoN_any a b ha hb w
theorem threeN_int (p q : Int) (a b : Nat) (hp : p = a) (hq : q = b) (ha : a < 8) (hb : b < 8) (w : World) : Calls Try.prog 33 #[.int .i64 p, .int .i64 q] w fun e w' => e = .returned (.string (threeN (tableAt Try.f33) a b)) ∧ w' = w := by
  subst hp hq
  exact threeN_any a b ha hb w
/-- an opcode's name, by its upper three bits, the next three, and the lowest two -/
def nm (T0 T2 T3 T1 : Nat → ByteArray) (a b c : Nat) : ByteArray :=
  if c = 0 then zeroN T0 a b else if c = 2 then twoN T2 a b else if c = 3 then threeN T3 a b else if a = 4 ∧ b = 2 then ⟨#[78, 79, 80]⟩ else nN (T1 0) a
theorem parts (n : Nat) (h : n < 256) : ∃ a b c : Nat, a < 8 ∧ b < 8 ∧ c < 4 ∧ a = n / 32 ∧ b = n / 4 % 8 ∧ c = n % 4 := ⟨n / 32, n / 4 % 8, n % 4, by omega, by omega, by omega, rfl, rfl, rfl⟩
set_option maxHeartbeats 1000000 in
theorem name_core (n a b c : Nat) (h : n < 256) (ha : a < 8) (hb : b < 8) (hc : c < 4) (e1 : (n : Int) / 32 = a) (e2 : (n : Int) / 4 % 8 = b) (e3 : (n : Int) % 4 = c) (w : World) : Calls Try.prog 20 #[.int .i64 n] w fun e w' => e = .returned (.string (nm (tableAt Try.f31) (tableAt Try.f32) (tableAt Try.f33) (tableAt Try.f20) a b c)) ∧ w' = w := by
  have h2 : c = 0 ∨ c = 1 ∨ c = 2 ∨ c = 3 := by omega
  have Ha := Lib.hid ha
  have Hb := Lib.hid hb
  clear ha hb
  rcases h2 with rfl | rfl | rfl | rfl
  · show Calls _ _ _ _ fun e w' => e = .returned (.string (zeroN (tableAt Try.f31) a b)) ∧ w' = w
    go_enter Try.func20, Try.ntmps20
    go_wp2_with fail
    refine (zeroN_int _ _ a b (by omega) (by omega) Ha.out Hb.out w).mono ?_
    rintro e w' ⟨rfl, rfl⟩
    go_wp2
    go_ret
    exact ⟨rfl, rfl⟩
  · have ht : (nm (tableAt Try.f31) (tableAt Try.f32) (tableAt Try.f33) (tableAt Try.f20) a b 1) = if a = 4 ∧ b = 2 then ⟨#[78, 79, 80]⟩ else nN (tableAt Try.f20 0) a := rfl
    rw [ht]
    clear ht
    by_cases h4 : a = 4
    · by_cases h5 : b = 2
      · rw [if_pos ⟨h4, h5⟩]
        subst h4 h5
        go_enter Try.func20, Try.ntmps20
        go_wp2
        go_ret
        exact ⟨rfl, rfl⟩
      · rw [if_neg (fun q => h5 q.2)]
        subst h4
        have b5 : ((b : Int) == 2) = false := by
          rw [beq_eq_false_iff_ne]
          omega
        generalize hT : tableAt Try.f20 0 = T
        have hs : T.size = 32 := by rw [← hT]; kernel_rfl
        have HT := Lib.hid hT
        clear hT
        go_enter Try.func20, Try.ntmps20
        go_wp2_with fail
        refine (nth_at _ T (by rw [← HT.out]; kernel_rfl) hs _ _ (by omega) Ha.out w).mono ?_
        rintro e w' ⟨rfl, rfl⟩
        clear HT
        go_wp2
        go_ret
        exact ⟨rfl, rfl⟩
    · rw [if_neg (fun q => h4 q.1)]
      have b4 : ((a : Int) == 4) = false := by
        rw [beq_eq_false_iff_ne]
        omega
      generalize hT : tableAt Try.f20 0 = T
      have hs : T.size = 32 := by rw [← hT]; kernel_rfl
      have HT := Lib.hid hT
      clear hT
      go_enter Try.func20, Try.ntmps20
      go_wp2_with fail
      refine (nth_at _ T (by rw [← HT.out]; kernel_rfl) hs _ _ (by omega) Ha.out w).mono ?_
      rintro e w' ⟨rfl, rfl⟩
      clear HT
      go_wp2
      go_ret
      exact ⟨rfl, rfl⟩
  · show Calls _ _ _ _ fun e w' => e = .returned (.string (twoN (tableAt Try.f32) a b)) ∧ w' = w
    go_enter Try.func20, Try.ntmps20
    go_wp2_with fail
    refine (twoN_int _ _ a b (by omega) (by omega) Ha.out Hb.out w).mono ?_
    rintro e w' ⟨rfl, rfl⟩
    go_wp2
    go_ret
    exact ⟨rfl, rfl⟩
  · show Calls _ _ _ _ fun e w' => e = .returned (.string (threeN (tableAt Try.f33) a b)) ∧ w' = w
    go_enter Try.func20, Try.ntmps20
    go_wp2_with fail
    refine (threeN_int _ _ a b (by omega) (by omega) Ha.out Hb.out w).mono ?_
    rintro e w' ⟨rfl, rfl⟩
    go_wp2
    go_ret
    exact ⟨rfl, rfl⟩
end Go.Proofs.Ytbekiknbjpdchaa
