/-
  Contract of the statement's value of a line.
  Conditions: none.
-/
import Derived.Test.YtmdledlbkdcmnaaRPtFits
import Derived.Test.YtmdledlbkdcmnaaAbs
namespace Go.Proofs.Ytmdledlbkdcmnaa
open Go.RowKit
theorem val_bd2 {a b : Int × Int} {t : Int} (h : (0 ≤ a.1 ∧ a.1 ≤ 8000) ∧ (-1099511627776 ≤ a.2 ∧ a.2 ≤ 1099511627776) ∧ (0 ≤ b.1 ∧ b.1 ≤ 8000) ∧ (-1099511627776 ≤ b.2 ∧ b.2 ≤ 1099511627776)) (h1 : -10 ≤ t) (h2 : t ≤ 5000) :
    (-8807088338485760 ≤ a.2 * (b.1 - t) ∧ a.2 * (b.1 - t) ≤ 8807088338485760) ∧ (-8807088338485760 ≤ b.2 * (t - a.1) ∧ b.2 * (t - a.1) ≤ 8807088338485760) := by
  have p3 := mul_bd (A := 1099511627776) (B := 8010) (a := a.2) (b := b.1 - t) (by omega) (by omega) (by omega) (by omega)
  have p4 := mul_bd (A := 1099511627776) (B := 8010) (a := b.2) (b := t - a.1) (by omega) (by omega) (by omega) (by omega)
  omega
theorem ret_ii {w w' : World} {a b c d : Int} (h1 : a = c) (h2 : b = d) (hb : Below w.heap.size w w') : Ending.returned (.tuple #[.int .i64 a, .int .i64 b]) = .returned (.tuple #[.int .i64 c, .int .i64 d]) ∧ Below w.heap.size w w' := ⟨by rw [h1, h2], hb⟩
set_option maxRecDepth 100000 in
set_option maxHeartbeats 4000000 in
theorem value_lt (a b : Int × Int) (t : Int) (w : World) (h : (0 ≤ a.1 ∧ a.1 ≤ 8000) ∧ (-1099511627776 ≤ a.2 ∧ a.2 ≤ 1099511627776) ∧ (0 ≤ b.1 ∧ b.1 ≤ 8000) ∧ (-1099511627776 ≤ b.2 ∧ b.2 ≤ 1099511627776)) (h1 : -10 ≤ t) (h2 : t ≤ 5000) (hs : a.1 ≤ b.1) :
    Calls Try.prog 35 #[.agg #[.int .i64 a.1, .int .i64 a.2, .int .i64 b.1, .int .i64 b.2], .int .i64 t] w fun e w' => e = .returned (.tuple #[.int .i64 (valN a b t), .int .i64 (b.1 - a.1)]) ∧ Below w.heap.size w w' := by
  obtain ⟨⟨v1, v2⟩, v3, v4⟩ := val_bd2 h h1 h2
  obtain ⟨⟨n1, n2⟩, ⟨n3, n4⟩, ⟨n5, n6⟩, n7, n8⟩ := h
  have hve : Hid (a.2 * (b.1 - t) + b.2 * (t - a.1) = valN a b t) := Lib.hid rfl
  go_enter Try.func35, Try.ntmps35
  go_wp2_with fail
  refine wp_abs (fun a0 a' W => ∃ x y, a' = ((((((a0.put (some 8) (.pointer (some ⟨w.heap.size, 0, none⟩))).put (some 9) (.agg #[.int .i64 a.1, .int .i64 a.2])).put (some 10) (.pointer (some ⟨w.heap.size, 2, none⟩))).put (some 11) (.agg #[.int .i64 b.1, .int .i64 b.2])).put (some 6) (.pointer (some ⟨x, 0, none⟩))).put (some 7) (.pointer (some ⟨y, 0, none⟩))) ∧ Below w.heap.size w W ∧ W.heap[x]? = some (.cells #[.int .i64 a.1, .int .i64 a.2] 23) ∧ W.heap[y]? = some (.cells #[.int .i64 b.1, .int .i64 b.2] 23) ∧ x ≠ y ∧ w.heap.size ≤ x ∧ w.heap.size ≤ y) ?_ ?_
  · (first | go_region_with (fail) | fail)
    all_goals
      refine ⟨?_, ?_, ?_, ?_⟩
      rotate_left 2
      · simp only [Act.put, List.setIfInBounds_toArray, List.set_cons_succ, List.set_cons_zero]
        rfl
      · exact ⟨(by repeat (first | with_reducible exact Below.refl _ _ | with_reducible assumption | with_reducible refine Below.drew ?_ | with_reducible refine Below.setCell ?_ (by first | omega | (simp; omega) | simp) _ | with_reducible refine Below.alloc ?_ (by first | omega | (simp; omega) | simp) _ | with_reducible refine Below.trans ?_ (Below.mono (by with_reducible assumption) (by first | omega | (simp; omega) | simp)))), (by first | ((repeat (first | with_reducible assumption | with_reducible refine heap_drew ?_ | with_reducible refine heap_new _ _ (by first | rfl | (simp; done) | fail "no") | with_reducible apply heap_alloc)); done) | fail "no"), (by first | ((repeat (first | with_reducible assumption | with_reducible refine heap_drew ?_ | with_reducible refine heap_new _ _ (by first | rfl | (simp; done) | fail "no") | with_reducible apply heap_alloc)); done) | fail "no"), by omega, by omega, by omega⟩
  · rintro a' W ⟨x, y, rfl, hK, hA, hB, hxy, hwx, hwy⟩
    simp only [Act.put, List.setIfInBounds_toArray, List.set_cons_succ, List.set_cons_zero]
    (have a0 := cell_heap (o := 0) hA rfl; have a1 := cell_heap (o := 1) hA rfl; have b0 := cell_heap (o := 0) hB rfl; have b1 := cell_heap (o := 1) hB rfl; have fa0 := frozen_heap (o := 0) hA; have fa1 := frozen_heap (o := 1) hA; have fb0 := frozen_heap (o := 0) hB; have fb1 := frozen_heap (o := 1) hB)
    go_wp2_with fail
    refine region_still (by kernel_rfl) (by kernel_rfl) ?_; intro W' hW hC; have z0 := (hC ⟨x, 0, none⟩).trans (a0); have z1 := (hC ⟨x, 1, none⟩).trans (a1); have z2 := (hC ⟨y, 0, none⟩).trans (b0); have z3 := (hC ⟨y, 1, none⟩).trans (b1); replace hW := Lib.hid hW; clear hC; (repeat still_step); refine wpStill_nil ?_; obtain rfl := hW.out; clear hW
    have z1 : IntKind.i64.wrap (b.1 - t) = b.1 - t := kwrap_id (by omega) (by omega)
    have z2 : IntKind.i64.wrap (t - a.1) = t - a.1 := kwrap_id (by omega) (by omega)
    have z3 : IntKind.i64.wrap (b.1 - a.1) = b.1 - a.1 := kwrap_id (by omega) (by omega)
    have z4 : IntKind.i64.wrap (a.2 * (b.1 - t)) = a.2 * (b.1 - t) := kwrap_id (by omega) (by omega)
    have z5 : IntKind.i64.wrap (b.2 * (t - a.1)) = b.2 * (t - a.1) := kwrap_id (by omega) (by omega)
    have z6 : IntKind.i64.wrap (a.2 * (b.1 - t) + b.2 * (t - a.1)) = a.2 * (b.1 - t) + b.2 * (t - a.1) := kwrap_id (by omega) (by omega)
    rw [z1, z2, z3, z4, z5, z6]
    go_wp2_with fail
    go_ret2
    exact ret_ii hve.out rfl (by repeat (first | with_reducible exact Below.refl _ _ | with_reducible assumption | with_reducible refine Below.drew ?_ | with_reducible refine Below.setCell ?_ (by first | omega | (simp; omega) | simp) _ | with_reducible refine Below.alloc ?_ (by first | omega | (simp; omega) | simp) _ | with_reducible refine Below.trans ?_ (Below.mono (by with_reducible assumption) (by first | omega | (simp; omega) | simp))))
set_option maxRecDepth 100000 in
set_option maxHeartbeats 4000000 in
theorem value_sw (a b : Int × Int) (t : Int) (w : World) (h : (0 ≤ a.1 ∧ a.1 ≤ 8000) ∧ (-1099511627776 ≤ a.2 ∧ a.2 ≤ 1099511627776) ∧ (0 ≤ b.1 ∧ b.1 ≤ 8000) ∧ (-1099511627776 ≤ b.2 ∧ b.2 ≤ 1099511627776)) (h1 : -10 ≤ t) (h2 : t ≤ 5000) (hs : b.1 < a.1) :
    Calls Try.prog 35 #[.agg #[.int .i64 a.1, .int .i64 a.2, .int .i64 b.1, .int .i64 b.2], .int .i64 t] w fun e w' => e = .returned (.tuple #[.int .i64 (valN b a t), .int .i64 (a.1 - b.1)]) ∧ Below w.heap.size w w' := by
  obtain ⟨⟨v1, v2⟩, v3, v4⟩ := val_bd2 ⟨h.2.2.1, h.2.2.2, h.1, h.2.1⟩ h1 h2
  obtain ⟨⟨n1, n2⟩, ⟨n3, n4⟩, ⟨n5, n6⟩, n7, n8⟩ := h
  have hve : Hid (b.2 * (a.1 - t) + a.2 * (t - b.1) = valN b a t) := Lib.hid rfl
  go_enter Try.func35, Try.ntmps35
  go_wp2_with fail
  refine wp_abs (fun a0 a' W => ∃ x y, a' = ((((((a0.put (some 8) (.pointer (some ⟨w.heap.size, 0, none⟩))).put (some 9) (.agg #[.int .i64 a.1, .int .i64 a.2])).put (some 10) (.pointer (some ⟨w.heap.size, 2, none⟩))).put (some 11) (.agg #[.int .i64 b.1, .int .i64 b.2])).put (some 6) (.pointer (some ⟨x, 0, none⟩))).put (some 7) (.pointer (some ⟨y, 0, none⟩))) ∧ Below w.heap.size w W ∧ W.heap[x]? = some (.cells #[.int .i64 a.1, .int .i64 a.2] 23) ∧ W.heap[y]? = some (.cells #[.int .i64 b.1, .int .i64 b.2] 23) ∧ x ≠ y ∧ w.heap.size ≤ x ∧ w.heap.size ≤ y) ?_ ?_
  · (first | go_region_with (fail) | fail)
    all_goals
      refine ⟨?_, ?_, ?_, ?_⟩
      rotate_left 2
      · simp only [Act.put, List.setIfInBounds_toArray, List.set_cons_succ, List.set_cons_zero]
        rfl
      · exact ⟨(by repeat (first | with_reducible exact Below.refl _ _ | with_reducible assumption | with_reducible refine Below.drew ?_ | with_reducible refine Below.setCell ?_ (by first | omega | (simp; omega) | simp) _ | with_reducible refine Below.alloc ?_ (by first | omega | (simp; omega) | simp) _ | with_reducible refine Below.trans ?_ (Below.mono (by with_reducible assumption) (by first | omega | (simp; omega) | simp)))), (by first | ((repeat (first | with_reducible assumption | with_reducible refine heap_drew ?_ | with_reducible refine heap_new _ _ (by first | rfl | (simp; done) | fail "no") | with_reducible apply heap_alloc)); done) | fail "no"), (by first | ((repeat (first | with_reducible assumption | with_reducible refine heap_drew ?_ | with_reducible refine heap_new _ _ (by first | rfl | (simp; done) | fail "no") | with_reducible apply heap_alloc)); done) | fail "no"), by omega, by omega, by omega⟩
  · rintro a' W ⟨x, y, rfl, hK, hA, hB, hxy, hwx, hwy⟩
    simp only [Act.put, List.setIfInBounds_toArray, List.set_cons_succ, List.set_cons_zero]
    (have a0 := cell_heap (o := 0) hA rfl; have a1 := cell_heap (o := 1) hA rfl; have b0 := cell_heap (o := 0) hB rfl; have b1 := cell_heap (o := 1) hB rfl; have fa0 := frozen_heap (o := 0) hA; have fa1 := frozen_heap (o := 1) hA; have fb0 := frozen_heap (o := 0) hB; have fb1 := frozen_heap (o := 1) hB)
    go_wp2_with fail
    have A1 := heap_set (o := 0) (v := .int .i64 b.1) hA
    have A2 := heap_set (o := 1) (v := .int .i64 b.2) A1
    simp only [List.setIfInBounds_toArray, List.set_cons_succ, List.set_cons_zero] at A2
    have B1 := heap_set_other (g := x) (o := 1) (v := .int .i64 b.2) (heap_set_other (g := x) (o := 0) (v := .int .i64 b.1) hB (Ne.symm hxy)) (Ne.symm hxy)
    have B2 := heap_set (o := 0) (v := .int .i64 a.1) B1
    have B3 := heap_set (o := 1) (v := .int .i64 a.2) B2
    simp only [List.setIfInBounds_toArray, List.set_cons_succ, List.set_cons_zero] at B3
    have A3 := heap_set_other (g := y) (o := 1) (v := .int .i64 a.2) (heap_set_other (g := y) (o := 0) (v := .int .i64 a.1) A2 hxy) hxy
    have hKs := Below.setCell (Below.setCell (Below.setCell (Below.setCell hK hwx (.int .i64 b.1) (p := ⟨x, 0, none⟩)) hwx (.int .i64 b.2) (p := ⟨x, 1, none⟩)) hwy (.int .i64 a.1) (p := ⟨y, 0, none⟩)) hwy (.int .i64 a.2) (p := ⟨y, 1, none⟩)
    clear a0 a1 b0 b1 fa0 fa1 fb0 fb1 hA hB A1 A2 B1 B2 hK
    have hA := A3
    have hB := B3
    have hK := hKs
    clear A3 B3 hKs
    generalize World.setCell (World.setCell (World.setCell (World.setCell _ _ _) _ _) _ _) _ _ = W5 at *
    (have a0 := cell_heap (o := 0) hA rfl; have a1 := cell_heap (o := 1) hA rfl; have b0 := cell_heap (o := 0) hB rfl; have b1 := cell_heap (o := 1) hB rfl; have fa0 := frozen_heap (o := 0) hA; have fa1 := frozen_heap (o := 1) hA; have fb0 := frozen_heap (o := 0) hB; have fb1 := frozen_heap (o := 1) hB)
    refine region_still (by kernel_rfl) (by kernel_rfl) ?_; intro W' hW hC; have z0 := (hC ⟨x, 0, none⟩).trans (a0); have z1 := (hC ⟨x, 1, none⟩).trans (a1); have z2 := (hC ⟨y, 0, none⟩).trans (b0); have z3 := (hC ⟨y, 1, none⟩).trans (b1); replace hW := Lib.hid hW; clear hC; (repeat still_step); refine wpStill_nil ?_; obtain rfl := hW.out; clear hW
    have z1 : IntKind.i64.wrap (a.1 - t) = a.1 - t := kwrap_id (by omega) (by omega)
    have z2 : IntKind.i64.wrap (t - b.1) = t - b.1 := kwrap_id (by omega) (by omega)
    have z3 : IntKind.i64.wrap (a.1 - b.1) = a.1 - b.1 := kwrap_id (by omega) (by omega)
    have z4 : IntKind.i64.wrap (b.2 * (a.1 - t)) = b.2 * (a.1 - t) := kwrap_id (by omega) (by omega)
    have z5 : IntKind.i64.wrap (a.2 * (t - b.1)) = a.2 * (t - b.1) := kwrap_id (by omega) (by omega)
    have z6 : IntKind.i64.wrap (b.2 * (a.1 - t) + a.2 * (t - b.1)) = b.2 * (a.1 - t) + a.2 * (t - b.1) := kwrap_id (by omega) (by omega)
    rw [z1, z2, z3, z4, z5, z6]
    go_wp2_with fail
    go_ret2
    exact ret_ii hve.out rfl (by repeat (first | with_reducible exact Below.refl _ _ | with_reducible assumption | with_reducible refine Below.drew ?_ | with_reducible refine Below.setCell ?_ (by first | omega | (simp; omega) | simp) _ | with_reducible refine Below.alloc ?_ (by first | omega | (simp; omega) | simp) _ | with_reducible refine Below.trans ?_ (Below.mono (by with_reducible assumption) (by first | omega | (simp; omega) | simp))))
theorem value_any (a b : Int × Int) (t : Int) (w : World) (h : (0 ≤ a.1 ∧ a.1 ≤ 8000) ∧ (-1099511627776 ≤ a.2 ∧ a.2 ≤ 1099511627776) ∧ (0 ≤ b.1 ∧ b.1 ≤ 8000) ∧ (-1099511627776 ≤ b.2 ∧ b.2 ≤ 1099511627776)) (h1 : -10 ≤ t) (h2 : t ≤ 5000) :
    Calls Try.prog 35 #[.agg #[.int .i64 a.1, .int .i64 a.2, .int .i64 b.1, .int .i64 b.2], .int .i64 t] w fun e w' => e = .returned (.tuple #[.int .i64 (valN (ordA a b) (ordB a b) t), .int .i64 ((ordB a b).1 - (ordA a b).1)]) ∧ Below w.heap.size w w' := by
  unfold ordA ordB
  by_cases hs : b.1 < a.1
  · rw [if_pos hs, if_pos hs]; exact value_sw a b t w h h1 h2 hs
  · rw [if_neg hs, if_neg hs]; exact value_lt a b t w h h1 h2 (by omega)
end Go.Proofs.Ytmdledlbkdcmnaa
