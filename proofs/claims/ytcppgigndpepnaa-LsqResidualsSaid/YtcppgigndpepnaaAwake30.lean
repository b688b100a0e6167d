/-
  The walk of the awake function of chapter 30.
  Conditions: none.
-/
import Derived.Test.YtcppgigndpepnaaSolve
import Derived.Test.YtcppgigndpepnaaAt
namespace Go.Proofs.Ytcppgigndpepnaa
open Go.RowKit
theorem cell_add {W : World} {b o j : Nat} {c : Array Value} {t : TypeId} {fr : Nat × Nat} {v : Value} (h : W.heap[b]? = some (.cells c t fr)) (e : o = j) (hv : c[j]? = some v) : W.cell? ⟨b, o, none⟩ = some v := by
  subst e; exact cell_heap h hv
theorem row_lit {W : World} {b : Nat} {x y : Int} {t : TypeId} {fr : Nat × Nat} (h : W.heap[b]? = some (.cells #[.int .i64 x, .int .i64 y] t fr)) : Row W (.slice (some ⟨b, 0, none⟩) 2 2) [x, y] := by
  refine ⟨_, b, 0, 2, rfl, fun _ => rfl, Nat.le_refl _, by unfold maxLen; omega, fun i z hz => ?_⟩
  match i, hz with
  | 0, hz => obtain rfl : x = z := by simpa using hz
             exact cell_add h rfl rfl
  | 1, hz => obtain rfl : y = z := by simpa using hz
             exact cell_add h rfl rfl
  | i + 2, hz => simp at hz
theorem mat_lit {W : World} {b b0 b1 : Nat} {x y z u : Int} {t s : TypeId} {fr f0 f1 : Nat × Nat} (h : W.heap[b]? = some (.cells #[.slice (some ⟨b0, 0, none⟩) 2 2, .slice (some ⟨b1, 0, none⟩) 2 2] t fr)) (h0 : W.heap[b0]? = some (.cells #[.int .i64 x, .int .i64 y] s f0)) (h1 : W.heap[b1]? = some (.cells #[.int .i64 z, .int .i64 u] s f1)) :
    MatV W (.slice (some ⟨b, 0, none⟩) 2 2) [[x, y], [z, u]] := by
  refine ⟨_, b, 0, 2, rfl, fun _ => rfl, Nat.le_refl _, by unfold maxLen; omega, fun i r hr => ?_⟩
  match i, hr with
  | 0, hr => obtain rfl : [x, y] = r := by simpa using hr
             exact ⟨_, cell_add h rfl rfl, row_lit h0⟩
  | 1, hr => obtain rfl : [z, u] = r := by simpa using hr
             exact ⟨_, cell_add h rfl rfl, row_lit h1⟩
  | i + 2, hr => simp at hr
theorem pts_lit {W : World} {b : Nat} {t : TypeId} {fr : Nat × Nat} (h : W.heap[b]? = some (.cells #[.int .i64 0, .int .i64 0, .int .i64 1, .int .i64 1, .int .i64 2, .int .i64 5] t fr)) : Pts W (.slice (some ⟨b, 0, none⟩) 3 3) [(0, 0), (1, 1), (2, 5)] := by
  refine ⟨_, b, 0, 3, rfl, fun _ => rfl, Nat.le_refl _, by unfold maxLen; omega, fun i p hp => ?_⟩
  match i, hp with
  | 0, hp => obtain rfl : ((0 : Int), (0 : Int)) = p := by simpa using hp
             exact ⟨cell_add h rfl rfl, cell_add h rfl rfl⟩
  | 1, hp => obtain rfl : ((1 : Int), (1 : Int)) = p := by simpa using hp
             exact ⟨cell_add h rfl rfl, cell_add h rfl rfl⟩
  | 2, hp => obtain rfl : ((2 : Int), (5 : Int)) = p := by simpa using hp
             exact ⟨cell_add h rfl rfl, cell_add h rfl rfl⟩
  | i + 3, hp => simp at hp
theorem solve_ex (W : World) (b b0 b1 b3 : Nat) (h : W.heap[b]? = some (.cells #[.slice (some ⟨b0, 0, none⟩) 2 2, .slice (some ⟨b1, 0, none⟩) 2 2] 23 (0, 0))) (h0 : W.heap[b0]? = some (.cells #[.int .i64 2, .int .i64 1] 2 (0, 0))) (h1 : W.heap[b1]? = some (.cells #[.int .i64 1, .int .i64 3] 2 (0, 0)))
    (h3 : W.heap[b3]? = some (.cells #[.int .i64 5, .int .i64 10] 2 (0, 0))) : Calls Try.prog 19 #[.slice (some ⟨b, 0, none⟩) 2 2, .slice (some ⟨b3, 0, none⟩) 2 2] W fun e w' => ∃ (g o cap : Nat), e = .returned (.tuple #[.slice (some ⟨g, o, none⟩) 2 cap, .int .i64 5, .int .i64 0]) ∧ (w'.cell? ⟨g, o, none⟩ = some (.int .i64 5) ∧ w'.cell? ⟨g, o + 1, none⟩ = some (.int .i64 15)) ∧ Below W.heap.size W w' := by
  refine (solve_any _ _ _ _ W (mat_lit h h0 h1) (row_lit h3)).mono ?_
  rintro e w' ⟨u, rfl, ⟨pa, g, o, cap, rfl, k1, _, _, k4⟩, hb⟩
  have e1 : solvD [[2, 1], [1, 3]] [5, 10] = 5 := by decide +kernel
  have e2 : solvE [[2, 1], [1, 3]] [5, 10] = 0 := by decide +kernel
  have e3 : solvX [[2, 1], [1, 3]] [5, 10] = [5, 15] := by decide +kernel
  rw [e3] at k1 k4
  rw [e1, e2, e3]
  obtain rfl := k1 (by decide)
  exact ⟨g, o, cap, rfl, ⟨k4 0 5 rfl, k4 1 15 rfl⟩, hb⟩
theorem line_ex : lineV [(0, 0), (1, 1), (2, 5)] = .tuple #[.agg #[.int .i64 (-3), .int .i64 15, .int .i64 6], .int .i64 0] := by kernel_rfl
theorem at_ex : atV (-3) 15 6 2 = .tuple #[.int .i64 5, .int .i64 0] := by kernel_rfl

set_option maxRecDepth 100000 in
set_option maxHeartbeats 8000000 in
theorem awake30_any (w : World) : Calls Try.prog 17 #[] w fun e w' => e = .returned (.bool true) ∧ Below w.heap.size w w' := by
  go_enter Try.func17, Try.ntmps17
  go_wp2_with (first
    | (go_at_call 19; refine (solve_ex _ _ w.heap.size (w.heap.size + 1) _ (by repeat (first | with_reducible refine heap_new _ _ (by first | omega | (simp; done) | (simp; omega)) | with_reducible apply heap_alloc)) (by repeat (first | with_reducible refine heap_new _ _ (by first | omega | (simp; done) | (simp; omega)) | with_reducible apply heap_alloc)) (by repeat (first | with_reducible refine heap_new _ _ (by first | omega | (simp; done) | (simp; omega)) | with_reducible apply heap_alloc)) (by repeat (first | with_reducible refine heap_new _ _ (by first | omega | (simp; done) | (simp; omega)) | with_reducible apply heap_alloc))).mono ?_; rintro e w1 ⟨g, o, cap, rfl, ⟨c0, c1⟩, hb1⟩; have hs1 := hb1.size; simp at hs1; have hK : Below w.heap.size w w1 := Below.trans (by repeat (first | exact Below.refl _ _ | refine Below.alloc ?_ (by first | omega | (simp; omega) | simp) _)) (hb1.mono (by simp; omega)))
    | (go_at_call 24; refine (line_any _ _ _ (pts_lit (heap_new _ _ rfl))).mono ?_; rintro e w2 ⟨rfl, hb2⟩; rw [line_ex]; have hs2 := hb2.size; simp at hs2; replace hK := Below.next1 hK (Nat.le_refl _) hb2; replace c0 := (((after hb2).1 _ _ (by rw [cell_alloc_old _ _ _ _ (by simp [c0])]; simp [c0])).trans (cell_alloc_old _ _ _ _ (by simp [c0]))).trans c0; replace c1 := (((after hb2).1 _ _ (by rw [cell_alloc_old _ _ _ _ (by simp [c1])]; simp [c1])).trans (cell_alloc_old _ _ _ _ (by simp [c1]))).trans c1)
    | (go_at_call 27; refine (at_any _ _ _ _ _).mono ?_; rintro e w3 ⟨rfl, hb3⟩; rw [at_ex]; have hs3 := hb3.size; simp at hs3; replace hK := Below.next1 hK (Nat.le_refl _) hb3; have hf3 := heap_old hb3 (heap_new _ _ rfl); replace c0 := (((after hb3).1 _ _ (by rw [cell_alloc_old _ _ _ _ (by simp [c0])]; simp [c0])).trans (cell_alloc_old _ _ _ _ (by simp [c0]))).trans c0; replace c1 := (((after hb3).1 _ _ (by rw [cell_alloc_old _ _ _ _ (by simp [c1])]; simp [c1])).trans (cell_alloc_old _ _ _ _ (by simp [c1]))).trans c1; have v0 := cell_heap (o := 0) hf3 rfl; have v1 := cell_heap (o := 1) hf3 rfl; have v2 := cell_heap (o := 2) hf3 rfl))
  go_ret
  exact ⟨rfl, hK⟩
end Go.Proofs.Ytcppgigndpepnaa
