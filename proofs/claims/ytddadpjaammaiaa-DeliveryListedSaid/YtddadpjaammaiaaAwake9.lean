/-
  The walk of the awake function of chapter 9.
  Conditions: none.
-/
import Derived.Test.YtddadpjaammaiaaCredit
import Derived.Test.YtddadpjaammaiaaRAll
namespace Go.Proofs.Ytddadpjaammaiaa
open Go.RowKit
theorem ea : creditW 1 1 2 0 2 0 0 false 0 0 = .agg #[.int .i64 0, .int .i64 3, .int .i64 0, .int .i64 0, .int .i64 0, .int .i64 3, .bool false, .bool false, .bool false, .bool false] := by kernel_rfl
theorem eb : creditW 1 1 3 1 0 0 4 false 0 0 = .agg #[.int .i64 4, .int .i64 0, .int .i64 1, .int .i64 0, .int .i64 0, .int .i64 5, .bool false, .bool true, .bool false, .bool false] := by kernel_rfl
theorem ec : creditW 1 1 1 3 3 1 0 false 0 0 = .agg #[.int .i64 0, .int .i64 0, .int .i64 0, .int .i64 0, .int .i64 2, .int .i64 0, .bool true, .bool true, .bool false, .bool true] := by kernel_rfl
theorem all_len (r : Int) (hr1 : -9223372036854775808 ≤ r) (hr2 : r ≤ 9223372036854775807) (w : World) : Calls Try.prog 14 #[.int .i64 r] w fun e w' => ∃ (pa : Option Addr) (cap : Nat), e = .returned (.slice pa (allL (most r)).length cap) ∧ Below w.heap.size w w' := by
  refine (all_any r hr1 hr2 w).mono ?_
  rintro e w' ⟨v, rfl, h, hb⟩
  rcases h.2 with ⟨rfl, h0⟩ | ⟨g, cap, cur, rfl, _⟩
  · exact ⟨none, 0, by rw [h0], hb⟩
  · exact ⟨_, _, rfl, hb⟩
theorem el0 : (allL (most 0)).length = 12 := by decide +kernel
theorem el1 : (allL (most 1)).length = 26 := by decide +kernel
set_option maxRecDepth 100000 in
set_option maxHeartbeats 8000000 in
theorem awake_any (w : World) : Calls Try.prog 9 #[] w fun e w' => e = .returned (.bool true) ∧ Below w.heap.size w w' := by
  go_enter Try.func9, Try.ntmps9
  have l0 := el0
  have l1 := el1
  go_wp2_with (first
    | (go_at_call 16; refine (credit_any 1 1 _ _ _ _ _ _ _ _ _ _ _ _ (by decide) (by decide) _).mono ?_; rintro e w1 ⟨rfl, hb1⟩; rw [ea]; have hK : Below w.heap.size w w1 := Below.next1 (Below.refl _ _) (Nat.le_refl _) hb1; have hs1 := hb1.size; simp at hs1; have hr1 := heap_old hb1 (heap_new _ _ rfl); have r0 := cell_heap (o := 0) hr1 rfl; have r1 := cell_heap (o := 1) hr1 rfl; have r2 := cell_heap (o := 2) hr1 rfl; have r3 := cell_heap (o := 3) hr1 rfl; have r4 := cell_heap (o := 4) hr1 rfl; have r5 := cell_heap (o := 5) hr1 rfl; have r6 := cell_heap (o := 6) hr1 rfl; have r7 := cell_heap (o := 7) hr1 rfl; have r8 := cell_heap (o := 8) hr1 rfl; have r9 := cell_heap (o := 9) hr1 rfl; have r10 := cell_heap (o := 10) hr1 rfl; have r11 := cell_heap (o := 11) hr1 rfl; have r12 := cell_heap (o := 12) hr1 rfl; have r13 := cell_heap (o := 13) hr1 rfl)
    | (go_at_call 16; refine (credit_any 1 1 _ _ _ _ _ _ _ _ _ _ _ _ (by decide) (by decide) _).mono ?_; rintro e w2 ⟨rfl, hb2⟩; rw [eb]; replace hK := Below.next1 hK (Nat.le_refl _) hb2; have hs2 := hb2.size; simp at hs2; have hr2 := heap_old hb2 (heap_alloc hr1); have ha2 := heap_old hb2 (heap_new _ _ rfl); have r0 := cell_heap (o := 0) hr2 rfl; have r1 := cell_heap (o := 1) hr2 rfl; have r2 := cell_heap (o := 2) hr2 rfl; have r3 := cell_heap (o := 3) hr2 rfl; have r4 := cell_heap (o := 4) hr2 rfl; have r5 := cell_heap (o := 5) hr2 rfl; have r6 := cell_heap (o := 6) hr2 rfl; have r7 := cell_heap (o := 7) hr2 rfl; have r8 := cell_heap (o := 8) hr2 rfl; have r9 := cell_heap (o := 9) hr2 rfl; have r10 := cell_heap (o := 10) hr2 rfl; have r11 := cell_heap (o := 11) hr2 rfl; have r12 := cell_heap (o := 12) hr2 rfl; have r13 := cell_heap (o := 13) hr2 rfl)
    | (go_at_call 16; refine (credit_any 1 1 _ _ _ _ _ _ _ _ _ _ _ _ (by decide) (by decide) _).mono ?_; rintro e w3 ⟨rfl, hb3⟩; rw [ec]; replace hK := Below.next1 hK (Nat.le_refl _) hb3; have hs3 := hb3.size; simp at hs3; have ha3 := heap_old hb3 (heap_alloc ha2); have hv3 := heap_old hb3 (heap_new _ _ rfl); have a0 := cell_heap (o := 0) ha3 rfl; have a1 := cell_heap (o := 1) ha3 rfl; have a2 := cell_heap (o := 2) ha3 rfl; have a3 := cell_heap (o := 3) ha3 rfl; have a4 := cell_heap (o := 4) ha3 rfl; have a5 := cell_heap (o := 5) ha3 rfl; have a6 := cell_heap (o := 6) ha3 rfl; have a7 := cell_heap (o := 7) ha3 rfl; have a8 := cell_heap (o := 8) ha3 rfl; have a9 := cell_heap (o := 9) ha3 rfl; have b0 := cell_heap (o := 0) hv3 rfl; have b1 := cell_heap (o := 1) hv3 rfl; have b2 := cell_heap (o := 2) hv3 rfl; have b3 := cell_heap (o := 3) hv3 rfl; have b4 := cell_heap (o := 4) hv3 rfl; have b5 := cell_heap (o := 5) hv3 rfl; have b6 := cell_heap (o := 6) hv3 rfl; have b7 := cell_heap (o := 7) hv3 rfl; have b8 := cell_heap (o := 8) hv3 rfl; have b9 := cell_heap (o := 9) hv3 rfl)
    | (go_at_call 14; refine (all_len _ (by decide) (by decide) _).mono ?_; rintro e w4 ⟨pa, cap, rfl, hb4⟩; first | replace hK := Below.next hK (Nat.le_refl _) hb4 | replace hK := Below.next1 hK (Nat.le_refl _) hb4))
  go_ret
  exact ⟨rfl, hK⟩
end Go.Proofs.Ytddadpjaammaiaa
