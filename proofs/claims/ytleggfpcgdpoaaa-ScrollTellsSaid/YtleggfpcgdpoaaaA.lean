/- The contract of the law package's awake: it answers true. -/
import Derived.Test.YtleggfpcgdpoaaaD
namespace Go.Proofs.Ytleggfpcgdpoaaa
open Go.ChangeShapes Go.WideShapes Go.ChangeAt Go.RowKit
theorem aw1 (w : World) : Calls Try.prog 12 #[.agg #[.int .u16 0, .int .u16 0, .int .u8 0, .bool false], .int .u8 125] w fun e w' => e = .returned (.tuple #[.agg #[.int .u16 0, .int .u16 15, .int .u8 5, .bool true], .int .i64 0]) ∧ Below w.heap.size w w' :=
  (write_lo_any 0 0 0 125 w (by omega) (by omega) (by omega) (by omega) (by omega) (by omega) (by omega)).mono fun _ _ h => ⟨h.1.trans rfl, h.2⟩
theorem aw2 (w : World) : Calls Try.prog 12 #[.agg #[.int .u16 0, .int .u16 15, .int .u8 5, .bool true], .int .u8 94] w fun e w' => e = .returned (.tuple #[.agg #[.int .u16 0, .int .u16 24943, .int .u8 5, .bool false], .int .i64 0]) ∧ Below w.heap.size w w' :=
  (write_hi_any 0 15 5 94 w (by omega) (by omega) (by omega) (by omega) (by omega) (by omega) (by omega)).mono fun _ _ h => ⟨h.1.trans rfl, h.2⟩
theorem aw3 (w : World) : Calls Try.prog 11 #[.agg #[.int .u16 0, .int .u16 0, .int .u8 0, .bool false], .int .u8 61] w fun e w' => e = .returned (.tuple #[.agg #[.int .u16 0, .int .u16 15616, .int .u8 0, .bool true], .int .i64 0]) ∧ Below w.heap.size w w' :=
  (addr_lo_any 0 0 0 61 w (by omega) (by omega) (by omega) (by omega) (by omega) (by omega) (by omega)).mono fun _ _ h => ⟨h.1.trans rfl, h.2⟩
theorem aw4 (w : World) : Calls Try.prog 11 #[.agg #[.int .u16 0, .int .u16 15616, .int .u8 0, .bool true], .int .u8 240] w fun e w' => e = .returned (.tuple #[.agg #[.int .u16 15856, .int .u16 15856, .int .u8 0, .bool false], .int .i64 0]) ∧ Below w.heap.size w w' :=
  (addr_hi_any 0 15616 0 240 w (by omega) (by omega) (by omega) (by omega) (by omega) (by omega) (by omega)).mono fun _ _ h => ⟨h.1.trans rfl, h.2⟩
theorem aw5 (w : World) : Calls Try.prog 15 #[.agg #[.int .u16 31, .int .u16 0, .int .u8 0, .bool false]] w fun e w' => e = .returned (.tuple #[.agg #[.int .u16 1024, .int .u16 0, .int .u8 0, .bool false], .int .i64 0]) ∧ Below w.heap.size w w' :=
  (right_any 31 0 0 false w (by omega) (by omega) (by omega) (by omega) (by omega)).mono fun _ _ h => ⟨h.1.trans rfl, h.2⟩
theorem below_new {B : Nat} {w W w' : World} {o : Obj} (h0 : Below B w W) (hB : B ≤ W.heap.size) (h : Below (W.alloc o).heap.size (W.alloc o) w') : Below B w w' :=
  (h0.alloc hB o).trans (h.mono (by rw [World.size_alloc]; omega))
set_option maxHeartbeats 1000000 in
theorem awake_any (w : World) : Calls Try.prog 9 #[] w fun e w' => e = .returned (.bool true) ∧ Below w.heap.size w w' := by
  go_enter Try.func9, Try.ntmps9
  go_wp2_with fail
  refine (aw1 _).mono ?_
  rintro e w1 ⟨rfl, z1⟩
  go_wp2_with fail
  refine (aw2 _).mono ?_
  rintro e w2 ⟨rfl, z2⟩
  have hA := Lib.hid (new_at z2 rfl)
  have hG := Lib.hid (below_new z1 z1.size z2)
  have hs := z1.size
  clear z1 z2
  go_wp2_with (refine wpList_store_row rfl 24 (.tmp 1) (.tmp 17) rfl w1.heap.size _ rfl rfl 24 _ hA.out (by kernel_rfl) rfl (one4 _ _ _ _) ?_)
  have hA2 := Lib.hid (setRow_heap _ _ _ #[.int .u16 0, .int .u16 24943, .int .u8 5, .bool false] _ _ hA.out)
  have hG2 := Lib.hid (Below.setRow hG.out hs #[.int .u16 0, .int .u16 24943, .int .u8 5, .bool false])
  generalize w2.setRow w1.heap.size #[.int .u16 0, .int .u16 24943, .int .u8 5, .bool false] = W2 at hA2 hG2
  clear hA hG
  refine (aw3 _).mono ?_
  rintro e w3 ⟨rfl, z3⟩
  have hA3 := Lib.hid (old_in hA2.out z3)
  have hG3 := Lib.hid (below_call hG2.out z3)
  clear z3 hA2 hG2
  go_wp2_with fail
  refine (aw4 _).mono ?_
  rintro e w4 ⟨rfl, z4⟩
  have hB4 := Lib.hid (new_at z4 rfl)
  have hA4 := Lib.hid (old_in (old_new hA3.out _) z4)
  have hG4 := Lib.hid (below_new hG3.out hG3.out.size z4)
  have hlt := lt_of_row hA3.out
  have hs3 := hG3.out.size
  clear z4 hA3 hG3
  go_wp2_with (refine wpList_store_row rfl 24 (.tmp 4) (.tmp 27) rfl w3.heap.size _ rfl rfl 24 _ hB4.out (by kernel_rfl) rfl (one4 _ _ _ _) ?_)
  have hB5 := Lib.hid (setRow_heap _ _ _ #[.int .u16 15856, .int .u16 15856, .int .u8 0, .bool false] _ _ hB4.out)
  have hA5 := Lib.hid ((setRow_other w4 w3.heap.size w1.heap.size #[.int .u16 15856, .int .u16 15856, .int .u8 0, .bool false] (by omega)).trans hA4.out)
  have hG5 := Lib.hid (Below.setRow hG4.out hs3 #[.int .u16 15856, .int .u16 15856, .int .u8 0, .bool false])
  generalize w4.setRow w3.heap.size #[.int .u16 15856, .int .u16 15856, .int .u8 0, .bool false] = W4 at hA5 hB5 hG5
  clear hA4 hB4 hG4
  refine (aw5 _).mono ?_
  rintro e w5 ⟨rfl, z5⟩
  have kA := cells_of (old_new (old_in hA5.out z5) (.cells #[.int .u16 1024, .int .u16 0, .int .u8 0, .bool false] 24 (0, 0)))
  have kB := cells_of (old_new (old_in hB5.out z5) (.cells #[.int .u16 1024, .int .u16 0, .int .u8 0, .bool false] 24 (0, 0)))
  have hG6 := Lib.hid (below_call hG5.out z5)
  clear z5 hA5 hB5 hG5
  go_wp2
  go_ret
  exact ⟨rfl, hG6.out.alloc hG6.out.size _⟩
end Go.Proofs.Ytleggfpcgdpoaaa
