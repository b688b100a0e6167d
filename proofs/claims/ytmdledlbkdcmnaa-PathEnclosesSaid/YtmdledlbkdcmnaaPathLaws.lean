/-
  The walks of the statements on enclosures: the example, the limit, Lines, Possible.
  Conditions: none.
-/
import Derived.Test.YtmdledlbkdcmnaaRLines
namespace Go.Proofs.Ytmdledlbkdcmnaa
open Go.RowKit
theorem cell_add' {W : World} {b o j : Nat} {c : Array Value} {t : TypeId} {fr : Nat × Nat} {v : Value} (h : W.heap[b]? = some (.cells c t fr)) (e : o = j) (hv : c[j]? = some v) : W.cell? ⟨b, o, none⟩ = some v := by
  subst e; exact cell_heap h hv
theorem seens_lit {W : World} {b : Nat} {t : TypeId} {fr : Nat × Nat} (h : W.heap[b]? = some (.cells #[.int .i64 0, .int .i64 1000, .int .i64 0, .int .i64 5000, .int .i64 10, .int .i64 10, .int .i64 0, .int .i64 0, .int .i64 4000, .int .i64 10] t fr)) : Seens W (.slice (some ⟨b, 0, none⟩) 2 2) [(0, 1000, 0, 5000, 10), (10, 0, 0, 4000, 10)] := by
  refine ⟨_, b, 0, 2, rfl, fun _ => rfl, Nat.le_refl _, by unfold maxLen; omega, fun i p hp => ?_⟩
  match i, hp with
  | 0, hp => obtain rfl : ((0 : Int), (1000 : Int), (0 : Int), (5000 : Int), (10 : Int)) = p := by simpa using hp
             exact ⟨cell_add' h rfl rfl, cell_add' h rfl rfl, cell_add' h rfl rfl, cell_add' h rfl rfl, cell_add' h rfl rfl⟩
  | 1, hp => obtain rfl : ((10 : Int), (0 : Int), (0 : Int), (4000 : Int), (10 : Int)) = p := by simpa using hp
             exact ⟨cell_add' h rfl rfl, cell_add' h rfl rfl, cell_add' h rfl rfl, cell_add' h rfl rfl, cell_add' h rfl rfl⟩
  | i + 2, hp => simp at hp
theorem lines_ex1 : linV [(0, 1000, 0, 5000, 10), (10, 0, 0, 4000, 10)] 0 10 = .tuple #[.agg #[.int .i64 (-10), .int .i64 10], .int .i64 0] := by kernel_rfl
theorem lines_ex2 : linV [(0, 1000, 0, 5000, 10), (10, 0, 0, 4000, 10)] 0 20 = .tuple #[.agg #[.int .i64 (-1030), .int .i64 (-970)], .int .i64 0] := by kernel_rfl
theorem lines_at1 (W : World) (b : Nat) (t : TypeId) (fr : Nat × Nat) (h : W.heap[b]? = some (.cells #[.int .i64 0, .int .i64 1000, .int .i64 0, .int .i64 5000, .int .i64 10, .int .i64 10, .int .i64 0, .int .i64 0, .int .i64 4000, .int .i64 10] t fr)) :
    Calls Try.prog 30 #[.slice (some ⟨b, 0, none⟩) 2 2, .int .i64 0, .int .i64 10] W fun e w' => e = .returned (.tuple #[.agg #[.int .i64 (-10), .int .i64 10], .int .i64 0]) ∧ Below W.heap.size W w' := by
  rw [← lines_ex1]; exact lines_any _ _ _ _ _ (seens_lit h)
theorem lines_at2 (W : World) (b : Nat) (t : TypeId) (fr : Nat × Nat) (h : W.heap[b]? = some (.cells #[.int .i64 0, .int .i64 1000, .int .i64 0, .int .i64 5000, .int .i64 10, .int .i64 10, .int .i64 0, .int .i64 0, .int .i64 4000, .int .i64 10] t fr)) :
    Calls Try.prog 30 #[.slice (some ⟨b, 0, none⟩) 2 2, .int .i64 0, .int .i64 20] W fun e w' => e = .returned (.tuple #[.agg #[.int .i64 (-1030), .int .i64 (-970)], .int .i64 0]) ∧ Below W.heap.size W w' := by
  rw [← lines_ex2]; exact lines_any _ _ _ _ _ (seens_lit h)
set_option maxRecDepth 100000 in
set_option maxHeartbeats 4000000 in
theorem awake33_any (w : World) : Calls Try.prog 28 #[] w fun e w' => e = .returned (.bool true) ∧ Below w.heap.size w w' := by
  go_enter Try.func28, Try.ntmps28
  go_wp2_with (first
    | (go_at_call_of 30 (Value.int IntKind.i64 10); refine (lines_at1 _ _ _ _ (heap_new _ _ rfl)).mono ?_; rintro e w1 ⟨rfl, hb1⟩; have hL := heap_alloc (X := .cells #[.int .i64 (-10), .int .i64 10] 34) (heap_old hb1 (heap_new w _ rfl)); have hK := Below.next1 (Below.refl _ _) (Nat.le_refl _) hb1; have hA := heap_new w1 (.cells #[.int .i64 (-10), .int .i64 10] 34) rfl)
    | (go_at_call_of 30 (Value.int IntKind.i64 20); refine (lines_at2 _ _ _ _ hL).mono ?_; rintro e w2 ⟨rfl, hb2⟩; replace hK := Below.next1 hK (Nat.le_refl _) hb2; replace hA := heap_old hb2 hA; have a0 := cell_heap (o := 0) hA rfl; have a1 := cell_heap (o := 1) hA rfl))
  go_ret
  exact ⟨rfl, hK.alloc hK.size _⟩
def fewB (l : List SN) : Bool := decide (l.length ≤ 12) || (decide (64 < l.length) && decide (l.length ≤ 200))
theorem few_any (v : Value) (l : List SN) (w : World) (h : Seens w v l) : Calls Try.prog 29 #[v] w fun e w' => e = .returned (.bool (fewB l)) ∧ Below w.heap.size w w' := by
  obtain ⟨pa, b, o, cap, rfl, h1, h2, h3, h4⟩ := h
  go_enter Try.func29, Try.ntmps29
  go_wp2_with fail
  all_goals (go_ret; refine ⟨ret_bool ?_, (by repeat (first | with_reducible exact Below.refl _ _ | with_reducible assumption | with_reducible refine Below.drew ?_ | with_reducible refine Below.setCell ?_ (by first | omega | (simp; omega) | simp) _ | with_reducible refine Below.alloc ?_ (by first | omega | (simp; omega) | simp) _ | with_reducible refine Below.trans ?_ (Below.mono (by with_reducible assumption) (by first | omega | (simp; omega) | simp))))⟩; unfold fewB; grind)
set_option maxRecDepth 100000 in
set_option maxHeartbeats 4000000 in
theorem pathLines_walk (v : Value) (l : List SN) (ax t : Int) (w : World) (h : Seens w v l) : Calls Try.prog 5 #[v, .int .i64 ax, .int .i64 t] w fun e w' => e = .returned (.bool true) ∧ Below w.heap.size w w' := by
  have hf := Lib.hid (fun w' (h : Seens w' v l) => few_any v l w' h)
  have h1 := Lib.hid (fun w' (h : Seens w' v l) => lines_any v l ax t w' h)
  have h2 := Lib.hid (fun w' (h : Seens w' v l) => rlines_any v l ax t w' h)
  unfold linV at h1 h2
  generalize linLo l ax t = A at *
  generalize linHi l ax t = B at *
  generalize linE l ax t = E at *
  generalize fewB l = fb at *
  cases fb
  all_goals
    go_enter Try.func5, Try.ntmps5
    go_wp2_with (first
      | (go_at_call 28; refine (awake33_any _).mono ?_; rintro e w1 ⟨rfl, hK⟩)
      | (go_at_call 29; refine (hf.out _ (h.below hK)).mono ?_; rintro e w2 ⟨rfl, hb2⟩; replace hK := Below.next hK (Nat.le_refl _) hb2; clear hb2)
      | (go_at_call 30; refine (h1.out _ (h.below hK)).mono ?_; rintro e w3 ⟨rfl, hb3⟩; replace hK := Below.next hK (Nat.le_refl _) hb3; have hA := heap_new w3 (.cells #[.int .i64 A, .int .i64 B] 34) rfl)
      | (go_at_call 31; refine (h2.out _ (h.below (hK.alloc hK.size _))).mono ?_; rintro e w4 ⟨rfl, hb4⟩; replace hK := Below.next1 hK (Nat.le_refl _) hb4; replace hA := heap_old hb4 hA; have a0 := cell_heap (o := 0) hA rfl; have a1 := cell_heap (o := 1) hA rfl))
    go_ret
    first | exact ⟨rfl, hK⟩ | exact ⟨rfl, hK.alloc hK.size _⟩
set_option maxRecDepth 100000 in
set_option maxHeartbeats 4000000 in
theorem pathPossible_walk (v : Value) (l : List SN) (w : World) (h : Seens w v l) : Calls Try.prog 6 #[v] w fun e w' => e = .returned (.bool true) ∧ Below w.heap.size w w' := by
  have hf := Lib.hid (fun w' (h : Seens w' v l) => few_any v l w' h)
  have h1 := Lib.hid (fun w' (h : Seens w' v l) => possible_any v l w' h)
  have h2 := Lib.hid (fun w' (h : Seens w' v l) => rpos_any v l w' h)
  unfold posV at h1 h2
  generalize posOk l = A at *
  generalize behE l = E at *
  generalize fewB l = fb at *
  cases fb
  all_goals
    go_enter Try.func6, Try.ntmps6
    go_wp2_with (first
      | (go_at_call 28; refine (awake33_any _).mono ?_; rintro e w1 ⟨rfl, hK⟩)
      | (go_at_call 29; refine (hf.out _ (h.below hK)).mono ?_; rintro e w2 ⟨rfl, hb2⟩; replace hK := Below.next hK (Nat.le_refl _) hb2; clear hb2)
      | (go_at_call 20; refine (h1.out _ (h.below hK)).mono ?_; rintro e w3 ⟨rfl, hb3⟩; replace hK := Below.next hK (Nat.le_refl _) hb3)
      | (go_at_call 32; refine (h2.out _ (h.below hK)).mono ?_; rintro e w4 ⟨rfl, hb4⟩; replace hK := Below.next hK (Nat.le_refl _) hb4))
    go_ret
    exact ⟨rfl, hK⟩
end Go.Proofs.Ytmdledlbkdcmnaa
