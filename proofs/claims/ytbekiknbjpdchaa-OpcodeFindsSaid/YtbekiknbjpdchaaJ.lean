/- The contract of the document's Decode: it tells of every opcode what the program's Decode tells. -/
import Derived.Test.YtbekiknbjpdchaaI
namespace Go.Proofs.Ytbekiknbjpdchaa
open Go.ChangeShapes Go.WideShapes Go.ChangeAt Go.RowKit
set_option linter.unusedVariables false
theorem crs_not {m : Int} (h7 : m ≠ 7) (h8 : m ≠ 8) (h10 : m ≠ 10) : crs m = false := by
  unfold crs
  rw [decide_eq_false h7, decide_eq_false h8, decide_eq_false h10]
  rfl
set_option maxRecDepth 100000 in
set_option maxHeartbeats 8000000 in
theorem rdecode_core (op : Int) (n : Nat) (h0 : op = n) (h1 : n < 256) (s T : ByteArray) (m u c : Int) (x g r : Bool) (hT : tableAt Try.f10 0 = T)
    (q1 : ∀ w, Calls Try.prog 20 #[.int .i64 n] w fun e w' => e = .returned (.string s) ∧ w' = w)
    (q2 : ∀ w, Calls Try.prog 21 #[.int .i64 n] w fun e w' => e = .returned (.int .i64 m) ∧ Below w.heap.size w w')
    (q3 : ∀ w, Calls Try.prog 22 #[.string s, .int .i64 m] w fun e w' => e = .returned (.int .i64 u) ∧ w' = w)
    (q4 : ∀ w, Calls Try.prog 23 #[.string T, .string s] w fun e w' => e = .returned (.bool r) ∧ w' = w)
    (q5 : ∀ w, Calls Try.prog 24 #[.int .i64 m, .int .i64 u] w fun e w' => e = .returned (.int .i64 c) ∧ w' = w)
    (hx : x = (decide (m = 11) || (crs m && decide (u = 1)))) (hg : g = (!r && (decide (¬ s.toList = [78, 79, 80]) || ((n : Int) == 234)) && ((n : Int) != 235))) (w : World) :
    Calls Try.prog 10 #[.int .u8 op] w fun e w' => e = .returned (.agg #[.string s, .int .i64 m, .int .i64 u, .int .i64 c, .bool x, .bool g]) ∧ Below w.heap.size w w' := by
  subst h0
  have Q1 := Lib.hid q1
  have Q2 := Lib.hid q2
  have Q3 := Lib.hid q3
  have Q4 := Lib.hid q4
  have Q5 := Lib.hid q5
  have Hx := Lib.hid hx
  have Hg := Lib.hid hg
  have HT := Lib.hid hT
  have Hs2 : (s.toList == [78, 79, 80]) = decide (s.toList = [78, 79, 80]) := by cases q : (s.toList == [78, 79, 80]) <;> simp_all
  have Hs3 := Lib.hid Hs2
  clear q1 q2 q3 q4 q5 hx hg hT Hs2
  go_enter Try.func10, Try.ntmps10
  go_wp2_with fail
  refine (Q1.out _).mono ?_
  rintro e w1 ⟨rfl, rfl⟩
  go_wp2_with fail
  refine (Q2.out _).mono ?_
  rintro e w2 ⟨rfl, z⟩
  have hR := Lib.hid (show w2.heap[w.heap.size]? = some (.cells #[.string ⟨#[]⟩, .int .i64 0, .int .i64 0, .int .i64 0, .bool false, .bool false] 23 (0, 0)) from old_in (heap_alloc_new _ _) z)
  have hG := Lib.hid (show Below w.heap.size w w2 from below_call ((Below.refl _ _).alloc (Nat.le_refl _) _) z)
  clear z
  go_wp2_with fail
  refine (Q3.out _).mono ?_
  rintro e w3 ⟨rfl, rfl⟩
  go_wp2_with fail
  refine (one_at _ T (by rw [← HT.out]; kernel_rfl) _ _ _ (Q4.out _)).mono ?_
  rintro e w4 ⟨rfl, rfl⟩
  go_wp2_with fail
  refine (Q5.out _).mono ?_
  rintro e w5 ⟨rfl, rfl⟩
  clear Q1 Q2 Q3 Q4 Q5 HT
  by_cases c11 : m = 11
  · subst c11
    have e0 : x = true := by rw [Hx.out]; rfl
    subst e0
    cases r
    · by_cases hn : s.toList = [78, 79, 80]
      · have bs : (s.toList == [78, 79, 80]) = true := by rw [Hs3.out]; simp [hn]
        cases b234 : ((n : Int) == 234)
        · have e : g = false := by rw [Hg.out, b234]; simp [hn]
          subst e
          clear hn
          go_wp2_with (refine wpList_store_row rfl 23 (.tmp 2) (.tmp 57) rfl w.heap.size _ rfl rfl 23 #[.string ⟨#[]⟩, .int .i64 0, .int .i64 0, .int .i64 0, .bool false, .bool false] hR.out (by kernel_rfl) rfl (by kernel_rfl) ?_)
          exact bodyPost_ret (results_cell_row (p := 2) (ty := 23) rfl _ _ w.heap.size 23 _ (0, 0) _ rfl (setRow_heap _ _ #[.string ⟨#[]⟩, .int .i64 0, .int .i64 0, .int .i64 0, .bool false, .bool false] _ _ _ hR.out) Try.underlying23 rfl (by kernel_rfl)) rfl ⟨rfl, below_row hG.out (Nat.le_refl _) _⟩
        · have e : g = ((n : Int) != 235) := by rw [Hg.out, b234]; simp
          subst e
          clear hn
          go_wp2_with (refine wpList_store_row rfl 23 (.tmp 2) (.tmp 57) rfl w.heap.size _ rfl rfl 23 #[.string ⟨#[]⟩, .int .i64 0, .int .i64 0, .int .i64 0, .bool false, .bool false] hR.out (by kernel_rfl) rfl (by kernel_rfl) ?_)
          exact bodyPost_ret (results_cell_row (p := 2) (ty := 23) rfl _ _ w.heap.size 23 _ (0, 0) _ rfl (setRow_heap _ _ #[.string ⟨#[]⟩, .int .i64 0, .int .i64 0, .int .i64 0, .bool false, .bool false] _ _ _ hR.out) Try.underlying23 rfl (by kernel_rfl)) rfl ⟨rfl, below_row hG.out (Nat.le_refl _) _⟩
      · have bs : (s.toList == [78, 79, 80]) = false := by rw [Hs3.out]; simp [hn]
        have e : g = ((n : Int) != 235) := by rw [Hg.out]; simp [hn]
        subst e
        clear hn
        go_wp2_with (refine wpList_store_row rfl 23 (.tmp 2) (.tmp 57) rfl w.heap.size _ rfl rfl 23 #[.string ⟨#[]⟩, .int .i64 0, .int .i64 0, .int .i64 0, .bool false, .bool false] hR.out (by kernel_rfl) rfl (by kernel_rfl) ?_)
        exact bodyPost_ret (results_cell_row (p := 2) (ty := 23) rfl _ _ w.heap.size 23 _ (0, 0) _ rfl (setRow_heap _ _ #[.string ⟨#[]⟩, .int .i64 0, .int .i64 0, .int .i64 0, .bool false, .bool false] _ _ _ hR.out) Try.underlying23 rfl (by kernel_rfl)) rfl ⟨rfl, below_row hG.out (Nat.le_refl _) _⟩
    · have e : g = false := by rw [Hg.out]; rfl
      subst e
      go_wp2_with (refine wpList_store_row rfl 23 (.tmp 2) (.tmp 57) rfl w.heap.size _ rfl rfl 23 #[.string ⟨#[]⟩, .int .i64 0, .int .i64 0, .int .i64 0, .bool false, .bool false] hR.out (by kernel_rfl) rfl (by kernel_rfl) ?_)
      exact bodyPost_ret (results_cell_row (p := 2) (ty := 23) rfl _ _ w.heap.size 23 _ (0, 0) _ rfl (setRow_heap _ _ #[.string ⟨#[]⟩, .int .i64 0, .int .i64 0, .int .i64 0, .bool false, .bool false] _ _ _ hR.out) Try.underlying23 rfl (by kernel_rfl)) rfl ⟨rfl, below_row hG.out (Nat.le_refl _) _⟩
  · by_cases c7 : m = 7
    · subst c7
      by_cases cu : u = 1
      · have bu : (u == 1) = true := by simp [cu]
        have e0 : x = true := by rw [Hx.out]; simp [cu, crs]
        subst e0
        clear cu
        cases r
        · by_cases hn : s.toList = [78, 79, 80]
          · have bs : (s.toList == [78, 79, 80]) = true := by rw [Hs3.out]; simp [hn]
            cases b234 : ((n : Int) == 234)
            · have e : g = false := by rw [Hg.out, b234]; simp [hn]
              subst e
              clear hn
              go_wp2_with (refine wpList_store_row rfl 23 (.tmp 2) (.tmp 57) rfl w.heap.size _ rfl rfl 23 #[.string ⟨#[]⟩, .int .i64 0, .int .i64 0, .int .i64 0, .bool false, .bool false] hR.out (by kernel_rfl) rfl (by kernel_rfl) ?_)
              exact bodyPost_ret (results_cell_row (p := 2) (ty := 23) rfl _ _ w.heap.size 23 _ (0, 0) _ rfl (setRow_heap _ _ #[.string ⟨#[]⟩, .int .i64 0, .int .i64 0, .int .i64 0, .bool false, .bool false] _ _ _ hR.out) Try.underlying23 rfl (by kernel_rfl)) rfl ⟨rfl, below_row hG.out (Nat.le_refl _) _⟩
            · have e : g = ((n : Int) != 235) := by rw [Hg.out, b234]; simp
              subst e
              clear hn
              go_wp2_with (refine wpList_store_row rfl 23 (.tmp 2) (.tmp 57) rfl w.heap.size _ rfl rfl 23 #[.string ⟨#[]⟩, .int .i64 0, .int .i64 0, .int .i64 0, .bool false, .bool false] hR.out (by kernel_rfl) rfl (by kernel_rfl) ?_)
              exact bodyPost_ret (results_cell_row (p := 2) (ty := 23) rfl _ _ w.heap.size 23 _ (0, 0) _ rfl (setRow_heap _ _ #[.string ⟨#[]⟩, .int .i64 0, .int .i64 0, .int .i64 0, .bool false, .bool false] _ _ _ hR.out) Try.underlying23 rfl (by kernel_rfl)) rfl ⟨rfl, below_row hG.out (Nat.le_refl _) _⟩
          · have bs : (s.toList == [78, 79, 80]) = false := by rw [Hs3.out]; simp [hn]
            have e : g = ((n : Int) != 235) := by rw [Hg.out]; simp [hn]
            subst e
            clear hn
            go_wp2_with (refine wpList_store_row rfl 23 (.tmp 2) (.tmp 57) rfl w.heap.size _ rfl rfl 23 #[.string ⟨#[]⟩, .int .i64 0, .int .i64 0, .int .i64 0, .bool false, .bool false] hR.out (by kernel_rfl) rfl (by kernel_rfl) ?_)
            exact bodyPost_ret (results_cell_row (p := 2) (ty := 23) rfl _ _ w.heap.size 23 _ (0, 0) _ rfl (setRow_heap _ _ #[.string ⟨#[]⟩, .int .i64 0, .int .i64 0, .int .i64 0, .bool false, .bool false] _ _ _ hR.out) Try.underlying23 rfl (by kernel_rfl)) rfl ⟨rfl, below_row hG.out (Nat.le_refl _) _⟩
        · have e : g = false := by rw [Hg.out]; rfl
          subst e
          go_wp2_with (refine wpList_store_row rfl 23 (.tmp 2) (.tmp 57) rfl w.heap.size _ rfl rfl 23 #[.string ⟨#[]⟩, .int .i64 0, .int .i64 0, .int .i64 0, .bool false, .bool false] hR.out (by kernel_rfl) rfl (by kernel_rfl) ?_)
          exact bodyPost_ret (results_cell_row (p := 2) (ty := 23) rfl _ _ w.heap.size 23 _ (0, 0) _ rfl (setRow_heap _ _ #[.string ⟨#[]⟩, .int .i64 0, .int .i64 0, .int .i64 0, .bool false, .bool false] _ _ _ hR.out) Try.underlying23 rfl (by kernel_rfl)) rfl ⟨rfl, below_row hG.out (Nat.le_refl _) _⟩
      · have bu : (u == 1) = false := by simp [cu]
        have e0 : x = false := by rw [Hx.out]; simp [cu]
        subst e0
        clear cu
        cases r
        · by_cases hn : s.toList = [78, 79, 80]
          · have bs : (s.toList == [78, 79, 80]) = true := by rw [Hs3.out]; simp [hn]
            cases b234 : ((n : Int) == 234)
            · have e : g = false := by rw [Hg.out, b234]; simp [hn]
              subst e
              clear hn
              go_wp2_with (refine wpList_store_row rfl 23 (.tmp 2) (.tmp 57) rfl w.heap.size _ rfl rfl 23 #[.string ⟨#[]⟩, .int .i64 0, .int .i64 0, .int .i64 0, .bool false, .bool false] hR.out (by kernel_rfl) rfl (by kernel_rfl) ?_)
              exact bodyPost_ret (results_cell_row (p := 2) (ty := 23) rfl _ _ w.heap.size 23 _ (0, 0) _ rfl (setRow_heap _ _ #[.string ⟨#[]⟩, .int .i64 0, .int .i64 0, .int .i64 0, .bool false, .bool false] _ _ _ hR.out) Try.underlying23 rfl (by kernel_rfl)) rfl ⟨rfl, below_row hG.out (Nat.le_refl _) _⟩
            · have e : g = ((n : Int) != 235) := by rw [Hg.out, b234]; simp
              subst e
              clear hn
              go_wp2_with (refine wpList_store_row rfl 23 (.tmp 2) (.tmp 57) rfl w.heap.size _ rfl rfl 23 #[.string ⟨#[]⟩, .int .i64 0, .int .i64 0, .int .i64 0, .bool false, .bool false] hR.out (by kernel_rfl) rfl (by kernel_rfl) ?_)
              exact bodyPost_ret (results_cell_row (p := 2) (ty := 23) rfl _ _ w.heap.size 23 _ (0, 0) _ rfl (setRow_heap _ _ #[.string ⟨#[]⟩, .int .i64 0, .int .i64 0, .int .i64 0, .bool false, .bool false] _ _ _ hR.out) Try.underlying23 rfl (by kernel_rfl)) rfl ⟨rfl, below_row hG.out (Nat.le_refl _) _⟩
          · have bs : (s.toList == [78, 79, 80]) = false := by rw [Hs3.out]; simp [hn]
            have e : g = ((n : Int) != 235) := by rw [Hg.out]; simp [hn]
            subst e
            clear hn
            go_wp2_with (refine wpList_store_row rfl 23 (.tmp 2) (.tmp 57) rfl w.heap.size _ rfl rfl 23 #[.string ⟨#[]⟩, .int .i64 0, .int .i64 0, .int .i64 0, .bool false, .bool false] hR.out (by kernel_rfl) rfl (by kernel_rfl) ?_)
            exact bodyPost_ret (results_cell_row (p := 2) (ty := 23) rfl _ _ w.heap.size 23 _ (0, 0) _ rfl (setRow_heap _ _ #[.string ⟨#[]⟩, .int .i64 0, .int .i64 0, .int .i64 0, .bool false, .bool false] _ _ _ hR.out) Try.underlying23 rfl (by kernel_rfl)) rfl ⟨rfl, below_row hG.out (Nat.le_refl _) _⟩
        · have e : g = false := by rw [Hg.out]; rfl
          subst e
          go_wp2_with (refine wpList_store_row rfl 23 (.tmp 2) (.tmp 57) rfl w.heap.size _ rfl rfl 23 #[.string ⟨#[]⟩, .int .i64 0, .int .i64 0, .int .i64 0, .bool false, .bool false] hR.out (by kernel_rfl) rfl (by kernel_rfl) ?_)
          exact bodyPost_ret (results_cell_row (p := 2) (ty := 23) rfl _ _ w.heap.size 23 _ (0, 0) _ rfl (setRow_heap _ _ #[.string ⟨#[]⟩, .int .i64 0, .int .i64 0, .int .i64 0, .bool false, .bool false] _ _ _ hR.out) Try.underlying23 rfl (by kernel_rfl)) rfl ⟨rfl, below_row hG.out (Nat.le_refl _) _⟩
    · by_cases c8 : m = 8
      · subst c8
        by_cases cu : u = 1
        · have bu : (u == 1) = true := by simp [cu]
          have e0 : x = true := by rw [Hx.out]; simp [cu, crs]
          subst e0
          clear cu
          cases r
          · by_cases hn : s.toList = [78, 79, 80]
            · have bs : (s.toList == [78, 79, 80]) = true := by rw [Hs3.out]; simp [hn]
              cases b234 : ((n : Int) == 234)
              · have e : g = false := by rw [Hg.out, b234]; simp [hn]
                subst e
                clear hn
                go_wp2_with (refine wpList_store_row rfl 23 (.tmp 2) (.tmp 57) rfl w.heap.size _ rfl rfl 23 #[.string ⟨#[]⟩, .int .i64 0, .int .i64 0, .int .i64 0, .bool false, .bool false] hR.out (by kernel_rfl) rfl (by kernel_rfl) ?_)
                exact bodyPost_ret (results_cell_row (p := 2) (ty := 23) rfl _ _ w.heap.size 23 _ (0, 0) _ rfl (setRow_heap _ _ #[.string ⟨#[]⟩, .int .i64 0, .int .i64 0, .int .i64 0, .bool false, .bool false] _ _ _ hR.out) Try.underlying23 rfl (by kernel_rfl)) rfl ⟨rfl, below_row hG.out (Nat.le_refl _) _⟩
              · have e : g = ((n : Int) != 235) := by rw [Hg.out, b234]; simp
                subst e
                clear hn
                go_wp2_with (refine wpList_store_row rfl 23 (.tmp 2) (.tmp 57) rfl w.heap.size _ rfl rfl 23 #[.string ⟨#[]⟩, .int .i64 0, .int .i64 0, .int .i64 0, .bool false, .bool false] hR.out (by kernel_rfl) rfl (by kernel_rfl) ?_)
                exact bodyPost_ret (results_cell_row (p := 2) (ty := 23) rfl _ _ w.heap.size 23 _ (0, 0) _ rfl (setRow_heap _ _ #[.string ⟨#[]⟩, .int .i64 0, .int .i64 0, .int .i64 0, .bool false, .bool false] _ _ _ hR.out) Try.underlying23 rfl (by kernel_rfl)) rfl ⟨rfl, below_row hG.out (Nat.le_refl _) _⟩
            · have bs : (s.toList == [78, 79, 80]) = false := by rw [Hs3.out]; simp [hn]
              have e : g = ((n : Int) != 235) := by rw [Hg.out]; simp [hn]
              subst e
              clear hn
              go_wp2_with (refine wpList_store_row rfl 23 (.tmp 2) (.tmp 57) rfl w.heap.size _ rfl rfl 23 #[.string ⟨#[]⟩, .int .i64 0, .int .i64 0, .int .i64 0, .bool false, .bool false] hR.out (by kernel_rfl) rfl (by kernel_rfl) ?_)
              exact bodyPost_ret (results_cell_row (p := 2) (ty := 23) rfl _ _ w.heap.size 23 _ (0, 0) _ rfl (setRow_heap _ _ #[.string ⟨#[]⟩, .int .i64 0, .int .i64 0, .int .i64 0, .bool false, .bool false] _ _ _ hR.out) Try.underlying23 rfl (by kernel_rfl)) rfl ⟨rfl, below_row hG.out (Nat.le_refl _) _⟩
          · have e : g = false := by rw [Hg.out]; rfl
            subst e
            go_wp2_with (refine wpList_store_row rfl 23 (.tmp 2) (.tmp 57) rfl w.heap.size _ rfl rfl 23 #[.string ⟨#[]⟩, .int .i64 0, .int .i64 0, .int .i64 0, .bool false, .bool false] hR.out (by kernel_rfl) rfl (by kernel_rfl) ?_)
            exact bodyPost_ret (results_cell_row (p := 2) (ty := 23) rfl _ _ w.heap.size 23 _ (0, 0) _ rfl (setRow_heap _ _ #[.string ⟨#[]⟩, .int .i64 0, .int .i64 0, .int .i64 0, .bool false, .bool false] _ _ _ hR.out) Try.underlying23 rfl (by kernel_rfl)) rfl ⟨rfl, below_row hG.out (Nat.le_refl _) _⟩
        · have bu : (u == 1) = false := by simp [cu]
          have e0 : x = false := by rw [Hx.out]; simp [cu]
          subst e0
          clear cu
          cases r
          · by_cases hn : s.toList = [78, 79, 80]
            · have bs : (s.toList == [78, 79, 80]) = true := by rw [Hs3.out]; simp [hn]
              cases b234 : ((n : Int) == 234)
              · have e : g = false := by rw [Hg.out, b234]; simp [hn]
                subst e
                clear hn
                go_wp2_with (refine wpList_store_row rfl 23 (.tmp 2) (.tmp 57) rfl w.heap.size _ rfl rfl 23 #[.string ⟨#[]⟩, .int .i64 0, .int .i64 0, .int .i64 0, .bool false, .bool false] hR.out (by kernel_rfl) rfl (by kernel_rfl) ?_)
                exact bodyPost_ret (results_cell_row (p := 2) (ty := 23) rfl _ _ w.heap.size 23 _ (0, 0) _ rfl (setRow_heap _ _ #[.string ⟨#[]⟩, .int .i64 0, .int .i64 0, .int .i64 0, .bool false, .bool false] _ _ _ hR.out) Try.underlying23 rfl (by kernel_rfl)) rfl ⟨rfl, below_row hG.out (Nat.le_refl _) _⟩
              · have e : g = ((n : Int) != 235) := by rw [Hg.out, b234]; simp
                subst e
                clear hn
                go_wp2_with (refine wpList_store_row rfl 23 (.tmp 2) (.tmp 57) rfl w.heap.size _ rfl rfl 23 #[.string ⟨#[]⟩, .int .i64 0, .int .i64 0, .int .i64 0, .bool false, .bool false] hR.out (by kernel_rfl) rfl (by kernel_rfl) ?_)
                exact bodyPost_ret (results_cell_row (p := 2) (ty := 23) rfl _ _ w.heap.size 23 _ (0, 0) _ rfl (setRow_heap _ _ #[.string ⟨#[]⟩, .int .i64 0, .int .i64 0, .int .i64 0, .bool false, .bool false] _ _ _ hR.out) Try.underlying23 rfl (by kernel_rfl)) rfl ⟨rfl, below_row hG.out (Nat.le_refl _) _⟩
            · have bs : (s.toList == [78, 79, 80]) = false := by rw [Hs3.out]; simp [hn]
              have e : g = ((n : Int) != 235) := by rw [Hg.out]; simp [hn]
              subst e
              clear hn
              go_wp2_with (refine wpList_store_row rfl 23 (.tmp 2) (.tmp 57) rfl w.heap.size _ rfl rfl 23 #[.string ⟨#[]⟩, .int .i64 0, .int .i64 0, .int .i64 0, .bool false, .bool false] hR.out (by kernel_rfl) rfl (by kernel_rfl) ?_)
              exact bodyPost_ret (results_cell_row (p := 2) (ty := 23) rfl _ _ w.heap.size 23 _ (0, 0) _ rfl (setRow_heap _ _ #[.string ⟨#[]⟩, .int .i64 0, .int .i64 0, .int .i64 0, .bool false, .bool false] _ _ _ hR.out) Try.underlying23 rfl (by kernel_rfl)) rfl ⟨rfl, below_row hG.out (Nat.le_refl _) _⟩
          · have e : g = false := by rw [Hg.out]; rfl
            subst e
            go_wp2_with (refine wpList_store_row rfl 23 (.tmp 2) (.tmp 57) rfl w.heap.size _ rfl rfl 23 #[.string ⟨#[]⟩, .int .i64 0, .int .i64 0, .int .i64 0, .bool false, .bool false] hR.out (by kernel_rfl) rfl (by kernel_rfl) ?_)
            exact bodyPost_ret (results_cell_row (p := 2) (ty := 23) rfl _ _ w.heap.size 23 _ (0, 0) _ rfl (setRow_heap _ _ #[.string ⟨#[]⟩, .int .i64 0, .int .i64 0, .int .i64 0, .bool false, .bool false] _ _ _ hR.out) Try.underlying23 rfl (by kernel_rfl)) rfl ⟨rfl, below_row hG.out (Nat.le_refl _) _⟩
      · by_cases c10 : m = 10
        · subst c10
          by_cases cu : u = 1
          · have bu : (u == 1) = true := by simp [cu]
            have e0 : x = true := by rw [Hx.out]; simp [cu, crs]
            subst e0
            clear cu
            cases r
            · by_cases hn : s.toList = [78, 79, 80]
              · have bs : (s.toList == [78, 79, 80]) = true := by rw [Hs3.out]; simp [hn]
                cases b234 : ((n : Int) == 234)
                · have e : g = false := by rw [Hg.out, b234]; simp [hn]
                  subst e
                  clear hn
                  go_wp2_with (refine wpList_store_row rfl 23 (.tmp 2) (.tmp 57) rfl w.heap.size _ rfl rfl 23 #[.string ⟨#[]⟩, .int .i64 0, .int .i64 0, .int .i64 0, .bool false, .bool false] hR.out (by kernel_rfl) rfl (by kernel_rfl) ?_)
                  exact bodyPost_ret (results_cell_row (p := 2) (ty := 23) rfl _ _ w.heap.size 23 _ (0, 0) _ rfl (setRow_heap _ _ #[.string ⟨#[]⟩, .int .i64 0, .int .i64 0, .int .i64 0, .bool false, .bool false] _ _ _ hR.out) Try.underlying23 rfl (by kernel_rfl)) rfl ⟨rfl, below_row hG.out (Nat.le_refl _) _⟩
                · have e : g = ((n : Int) != 235) := by rw [Hg.out, b234]; simp
                  subst e
                  clear hn
                  go_wp2_with (refine wpList_store_row rfl 23 (.tmp 2) (.tmp 57) rfl w.heap.size _ rfl rfl 23 #[.string ⟨#[]⟩, .int .i64 0, .int .i64 0, .int .i64 0, .bool false, .bool false] hR.out (by kernel_rfl) rfl (by kernel_rfl) ?_)
                  exact bodyPost_ret (results_cell_row (p := 2) (ty := 23) rfl _ _ w.heap.size 23 _ (0, 0) _ rfl (setRow_heap _ _ #[.string ⟨#[]⟩, .int .i64 0, .int .i64 0, .int .i64 0, .bool false, .bool false] _ _ _ hR.out) Try.underlying23 rfl (by kernel_rfl)) rfl ⟨rfl, below_row hG.out (Nat.le_refl _) _⟩
              · have bs : (s.toList == [78, 79, 80]) = false := by rw [Hs3.out]; simp [hn]
                have e : g = ((n : Int) != 235) := by rw [Hg.out]; simp [hn]
                subst e
                clear hn
                go_wp2_with (refine wpList_store_row rfl 23 (.tmp 2) (.tmp 57) rfl w.heap.size _ rfl rfl 23 #[.string ⟨#[]⟩, .int .i64 0, .int .i64 0, .int .i64 0, .bool false, .bool false] hR.out (by kernel_rfl) rfl (by kernel_rfl) ?_)
                exact bodyPost_ret (results_cell_row (p := 2) (ty := 23) rfl _ _ w.heap.size 23 _ (0, 0) _ rfl (setRow_heap _ _ #[.string ⟨#[]⟩, .int .i64 0, .int .i64 0, .int .i64 0, .bool false, .bool false] _ _ _ hR.out) Try.underlying23 rfl (by kernel_rfl)) rfl ⟨rfl, below_row hG.out (Nat.le_refl _) _⟩
            · have e : g = false := by rw [Hg.out]; rfl
              subst e
              go_wp2_with (refine wpList_store_row rfl 23 (.tmp 2) (.tmp 57) rfl w.heap.size _ rfl rfl 23 #[.string ⟨#[]⟩, .int .i64 0, .int .i64 0, .int .i64 0, .bool false, .bool false] hR.out (by kernel_rfl) rfl (by kernel_rfl) ?_)
              exact bodyPost_ret (results_cell_row (p := 2) (ty := 23) rfl _ _ w.heap.size 23 _ (0, 0) _ rfl (setRow_heap _ _ #[.string ⟨#[]⟩, .int .i64 0, .int .i64 0, .int .i64 0, .bool false, .bool false] _ _ _ hR.out) Try.underlying23 rfl (by kernel_rfl)) rfl ⟨rfl, below_row hG.out (Nat.le_refl _) _⟩
          · have bu : (u == 1) = false := by simp [cu]
            have e0 : x = false := by rw [Hx.out]; simp [cu]
            subst e0
            clear cu
            cases r
            · by_cases hn : s.toList = [78, 79, 80]
              · have bs : (s.toList == [78, 79, 80]) = true := by rw [Hs3.out]; simp [hn]
                cases b234 : ((n : Int) == 234)
                · have e : g = false := by rw [Hg.out, b234]; simp [hn]
                  subst e
                  clear hn
                  go_wp2_with (refine wpList_store_row rfl 23 (.tmp 2) (.tmp 57) rfl w.heap.size _ rfl rfl 23 #[.string ⟨#[]⟩, .int .i64 0, .int .i64 0, .int .i64 0, .bool false, .bool false] hR.out (by kernel_rfl) rfl (by kernel_rfl) ?_)
                  exact bodyPost_ret (results_cell_row (p := 2) (ty := 23) rfl _ _ w.heap.size 23 _ (0, 0) _ rfl (setRow_heap _ _ #[.string ⟨#[]⟩, .int .i64 0, .int .i64 0, .int .i64 0, .bool false, .bool false] _ _ _ hR.out) Try.underlying23 rfl (by kernel_rfl)) rfl ⟨rfl, below_row hG.out (Nat.le_refl _) _⟩
                · have e : g = ((n : Int) != 235) := by rw [Hg.out, b234]; simp
                  subst e
                  clear hn
                  go_wp2_with (refine wpList_store_row rfl 23 (.tmp 2) (.tmp 57) rfl w.heap.size _ rfl rfl 23 #[.string ⟨#[]⟩, .int .i64 0, .int .i64 0, .int .i64 0, .bool false, .bool false] hR.out (by kernel_rfl) rfl (by kernel_rfl) ?_)
                  exact bodyPost_ret (results_cell_row (p := 2) (ty := 23) rfl _ _ w.heap.size 23 _ (0, 0) _ rfl (setRow_heap _ _ #[.string ⟨#[]⟩, .int .i64 0, .int .i64 0, .int .i64 0, .bool false, .bool false] _ _ _ hR.out) Try.underlying23 rfl (by kernel_rfl)) rfl ⟨rfl, below_row hG.out (Nat.le_refl _) _⟩
              · have bs : (s.toList == [78, 79, 80]) = false := by rw [Hs3.out]; simp [hn]
                have e : g = ((n : Int) != 235) := by rw [Hg.out]; simp [hn]
                subst e
                clear hn
                go_wp2_with (refine wpList_store_row rfl 23 (.tmp 2) (.tmp 57) rfl w.heap.size _ rfl rfl 23 #[.string ⟨#[]⟩, .int .i64 0, .int .i64 0, .int .i64 0, .bool false, .bool false] hR.out (by kernel_rfl) rfl (by kernel_rfl) ?_)
                exact bodyPost_ret (results_cell_row (p := 2) (ty := 23) rfl _ _ w.heap.size 23 _ (0, 0) _ rfl (setRow_heap _ _ #[.string ⟨#[]⟩, .int .i64 0, .int .i64 0, .int .i64 0, .bool false, .bool false] _ _ _ hR.out) Try.underlying23 rfl (by kernel_rfl)) rfl ⟨rfl, below_row hG.out (Nat.le_refl _) _⟩
            · have e : g = false := by rw [Hg.out]; rfl
              subst e
              go_wp2_with (refine wpList_store_row rfl 23 (.tmp 2) (.tmp 57) rfl w.heap.size _ rfl rfl 23 #[.string ⟨#[]⟩, .int .i64 0, .int .i64 0, .int .i64 0, .bool false, .bool false] hR.out (by kernel_rfl) rfl (by kernel_rfl) ?_)
              exact bodyPost_ret (results_cell_row (p := 2) (ty := 23) rfl _ _ w.heap.size 23 _ (0, 0) _ rfl (setRow_heap _ _ #[.string ⟨#[]⟩, .int .i64 0, .int .i64 0, .int .i64 0, .bool false, .bool false] _ _ _ hR.out) Try.underlying23 rfl (by kernel_rfl)) rfl ⟨rfl, below_row hG.out (Nat.le_refl _) _⟩
        · have b11 : (m == 11) = false := by simp [c11]
          have b7 : (m == 7) = false := by simp [c7]
          have b8 : (m == 8) = false := by simp [c8]
          have b10 : (m == 10) = false := by simp [c10]
          have e0 : x = false := by rw [Hx.out, crs_not c7 c8 c10]; simp [c11]
          subst e0
          clear c11 c7 c8 c10
          by_cases cu : u = 1
          · have bu : (u == 1) = true := by simp [cu]
            clear cu
            cases r
            · by_cases hn : s.toList = [78, 79, 80]
              · have bs : (s.toList == [78, 79, 80]) = true := by rw [Hs3.out]; simp [hn]
                cases b234 : ((n : Int) == 234)
                · have e : g = false := by rw [Hg.out, b234]; simp [hn]
                  subst e
                  clear hn
                  go_wp2_with (refine wpList_store_row rfl 23 (.tmp 2) (.tmp 57) rfl w.heap.size _ rfl rfl 23 #[.string ⟨#[]⟩, .int .i64 0, .int .i64 0, .int .i64 0, .bool false, .bool false] hR.out (by kernel_rfl) rfl (by kernel_rfl) ?_)
                  exact bodyPost_ret (results_cell_row (p := 2) (ty := 23) rfl _ _ w.heap.size 23 _ (0, 0) _ rfl (setRow_heap _ _ #[.string ⟨#[]⟩, .int .i64 0, .int .i64 0, .int .i64 0, .bool false, .bool false] _ _ _ hR.out) Try.underlying23 rfl (by kernel_rfl)) rfl ⟨rfl, below_row hG.out (Nat.le_refl _) _⟩
                · have e : g = ((n : Int) != 235) := by rw [Hg.out, b234]; simp
                  subst e
                  clear hn
                  go_wp2_with (refine wpList_store_row rfl 23 (.tmp 2) (.tmp 57) rfl w.heap.size _ rfl rfl 23 #[.string ⟨#[]⟩, .int .i64 0, .int .i64 0, .int .i64 0, .bool false, .bool false] hR.out (by kernel_rfl) rfl (by kernel_rfl) ?_)
                  exact bodyPost_ret (results_cell_row (p := 2) (ty := 23) rfl _ _ w.heap.size 23 _ (0, 0) _ rfl (setRow_heap _ _ #[.string ⟨#[]⟩, .int .i64 0, .int .i64 0, .int .i64 0, .bool false, .bool false] _ _ _ hR.out) Try.underlying23 rfl (by kernel_rfl)) rfl ⟨rfl, below_row hG.out (Nat.le_refl _) _⟩
              · have bs : (s.toList == [78, 79, 80]) = false := by rw [Hs3.out]; simp [hn]
                have e : g = ((n : Int) != 235) := by rw [Hg.out]; simp [hn]
                subst e
                clear hn
                go_wp2_with (refine wpList_store_row rfl 23 (.tmp 2) (.tmp 57) rfl w.heap.size _ rfl rfl 23 #[.string ⟨#[]⟩, .int .i64 0, .int .i64 0, .int .i64 0, .bool false, .bool false] hR.out (by kernel_rfl) rfl (by kernel_rfl) ?_)
                exact bodyPost_ret (results_cell_row (p := 2) (ty := 23) rfl _ _ w.heap.size 23 _ (0, 0) _ rfl (setRow_heap _ _ #[.string ⟨#[]⟩, .int .i64 0, .int .i64 0, .int .i64 0, .bool false, .bool false] _ _ _ hR.out) Try.underlying23 rfl (by kernel_rfl)) rfl ⟨rfl, below_row hG.out (Nat.le_refl _) _⟩
            · have e : g = false := by rw [Hg.out]; rfl
              subst e
              go_wp2_with (refine wpList_store_row rfl 23 (.tmp 2) (.tmp 57) rfl w.heap.size _ rfl rfl 23 #[.string ⟨#[]⟩, .int .i64 0, .int .i64 0, .int .i64 0, .bool false, .bool false] hR.out (by kernel_rfl) rfl (by kernel_rfl) ?_)
              exact bodyPost_ret (results_cell_row (p := 2) (ty := 23) rfl _ _ w.heap.size 23 _ (0, 0) _ rfl (setRow_heap _ _ #[.string ⟨#[]⟩, .int .i64 0, .int .i64 0, .int .i64 0, .bool false, .bool false] _ _ _ hR.out) Try.underlying23 rfl (by kernel_rfl)) rfl ⟨rfl, below_row hG.out (Nat.le_refl _) _⟩
          · have bu : (u == 1) = false := by simp [cu]
            clear cu
            cases r
            · by_cases hn : s.toList = [78, 79, 80]
              · have bs : (s.toList == [78, 79, 80]) = true := by rw [Hs3.out]; simp [hn]
                cases b234 : ((n : Int) == 234)
                · have e : g = false := by rw [Hg.out, b234]; simp [hn]
                  subst e
                  clear hn
                  go_wp2_with (refine wpList_store_row rfl 23 (.tmp 2) (.tmp 57) rfl w.heap.size _ rfl rfl 23 #[.string ⟨#[]⟩, .int .i64 0, .int .i64 0, .int .i64 0, .bool false, .bool false] hR.out (by kernel_rfl) rfl (by kernel_rfl) ?_)
                  exact bodyPost_ret (results_cell_row (p := 2) (ty := 23) rfl _ _ w.heap.size 23 _ (0, 0) _ rfl (setRow_heap _ _ #[.string ⟨#[]⟩, .int .i64 0, .int .i64 0, .int .i64 0, .bool false, .bool false] _ _ _ hR.out) Try.underlying23 rfl (by kernel_rfl)) rfl ⟨rfl, below_row hG.out (Nat.le_refl _) _⟩
                · have e : g = ((n : Int) != 235) := by rw [Hg.out, b234]; simp
                  subst e
                  clear hn
                  go_wp2_with (refine wpList_store_row rfl 23 (.tmp 2) (.tmp 57) rfl w.heap.size _ rfl rfl 23 #[.string ⟨#[]⟩, .int .i64 0, .int .i64 0, .int .i64 0, .bool false, .bool false] hR.out (by kernel_rfl) rfl (by kernel_rfl) ?_)
                  exact bodyPost_ret (results_cell_row (p := 2) (ty := 23) rfl _ _ w.heap.size 23 _ (0, 0) _ rfl (setRow_heap _ _ #[.string ⟨#[]⟩, .int .i64 0, .int .i64 0, .int .i64 0, .bool false, .bool false] _ _ _ hR.out) Try.underlying23 rfl (by kernel_rfl)) rfl ⟨rfl, below_row hG.out (Nat.le_refl _) _⟩
              · have bs : (s.toList == [78, 79, 80]) = false := by rw [Hs3.out]; simp [hn]
                have e : g = ((n : Int) != 235) := by rw [Hg.out]; simp [hn]
                subst e
                clear hn
                go_wp2_with (refine wpList_store_row rfl 23 (.tmp 2) (.tmp 57) rfl w.heap.size _ rfl rfl 23 #[.string ⟨#[]⟩, .int .i64 0, .int .i64 0, .int .i64 0, .bool false, .bool false] hR.out (by kernel_rfl) rfl (by kernel_rfl) ?_)
                exact bodyPost_ret (results_cell_row (p := 2) (ty := 23) rfl _ _ w.heap.size 23 _ (0, 0) _ rfl (setRow_heap _ _ #[.string ⟨#[]⟩, .int .i64 0, .int .i64 0, .int .i64 0, .bool false, .bool false] _ _ _ hR.out) Try.underlying23 rfl (by kernel_rfl)) rfl ⟨rfl, below_row hG.out (Nat.le_refl _) _⟩
            · have e : g = false := by rw [Hg.out]; rfl
              subst e
              go_wp2_with (refine wpList_store_row rfl 23 (.tmp 2) (.tmp 57) rfl w.heap.size _ rfl rfl 23 #[.string ⟨#[]⟩, .int .i64 0, .int .i64 0, .int .i64 0, .bool false, .bool false] hR.out (by kernel_rfl) rfl (by kernel_rfl) ?_)
              exact bodyPost_ret (results_cell_row (p := 2) (ty := 23) rfl _ _ w.heap.size 23 _ (0, 0) _ rfl (setRow_heap _ _ #[.string ⟨#[]⟩, .int .i64 0, .int .i64 0, .int .i64 0, .bool false, .bool false] _ _ _ hR.out) Try.underlying23 rfl (by kernel_rfl)) rfl ⟨rfl, below_row hG.out (Nat.le_refl _) _⟩
end Go.Proofs.Ytbekiknbjpdchaa
