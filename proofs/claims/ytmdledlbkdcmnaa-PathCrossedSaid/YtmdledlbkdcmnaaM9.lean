/-
  Contracts and laws, merged: Value CrossLaw PathLaws2.
  Conditions: none.
-/
import Derived.Test.YtmdledlbkdcmnaaM8
import Derived.Test.YtmdledlbkdcmnaaM3
import Derived.Test.YtmdledlbkdcmnaaM1
import Derived.Test.YtmdledlbkdcmnaaM7
set_option linter.unusedSimpArgs false
set_option linter.unusedVariables false
/-
  Contract of the statement's value of a line.
  Conditions: none.
-/
namespace Go.Proofs.Ytmdledlbkdcmnaa
open Go.RowKit
theorem val_bd2 {a b : Int × Int} {t : Int} (h : (0 ≤ a.1 ∧ a.1 ≤ 8000) ∧ (-1099511627776 ≤ a.2 ∧ a.2 ≤ 1099511627776) ∧ (0 ≤ b.1 ∧ b.1 ≤ 8000) ∧ (-1099511627776 ≤ b.2 ∧ b.2 ≤ 1099511627776)) (h1 : -10 ≤ t) (h2 : t ≤ 5000) :
    (-8807088338485760 ≤ a.2 * (b.1 - t) ∧ a.2 * (b.1 - t) ≤ 8807088338485760) ∧ (-8807088338485760 ≤ b.2 * (t - a.1) ∧ b.2 * (t - a.1) ≤ 8807088338485760) := by
  have p3 := mul_bd (A := 1099511627776) (B := 8010) (a := a.2) (b := b.1 - t) (by omega) (by omega) (by omega) (by omega)
  have p4 := mul_bd (A := 1099511627776) (B := 8010) (a := b.2) (b := t - a.1) (by omega) (by omega) (by omega) (by omega)
  omega
theorem ret_ii {w w' : World} {a b c d : Int} (h1 : a = c) (h2 : b = d) (hb : Below w.heap.size w w') : Ending.returned (.tuple #[.int .i64 a, .int .i64 b]) = .returned (.tuple #[.int .i64 c, .int .i64 d]) ∧ Below w.heap.size w w' := ⟨by rw [h1, h2], hb⟩
set_option maxRecDepth 100000 in
set_option maxHeartbeats 4000000 in
theorem value_lt (a b : Int × Int) (t : Int) (w : World) (h : (0 ≤ a.1 ∧ a.1 ≤ 8000) ∧ (-1099511627776 ≤ a.2 ∧ a.2 ≤ 1099511627776) ∧ (0 ≤ b.1 ∧ b.1 ≤ 8000) ∧ (-1099511627776 ≤ b.2 ∧ b.2 ≤ 1099511627776)) (h1 : -10 ≤ t) (h2 : t ≤ 5000) (hs : a.1 ≤ b.1) :
    Calls Try.prog 35 #[.agg #[.int .i64 a.1, .int .i64 a.2, .int .i64 b.1, .int .i64 b.2], .int .i64 t] w fun e w' => e = .returned (.tuple #[.int .i64 (valN a b t), .int .i64 (b.1 - a.1)]) ∧ Below w.heap.size w w' := by
  obtain ⟨⟨v1, v2⟩, v3, v4⟩ := val_bd2 h h1 h2
  obtain ⟨⟨n1, n2⟩, ⟨n3, n4⟩, ⟨n5, n6⟩, n7, n8⟩ := h
  have hve : Hid (a.2 * (b.1 - t) + b.2 * (t - a.1) = valN a b t) := Lib.hid rfl
  go_enter Try.func35, Try.ntmps35
  go_wp2_with fail
  refine wp_abs (fun a0 a' W => ∃ x y, a' = ((((((a0.put (some 8) (.pointer (some ⟨w.heap.size, 0, none⟩))).put (some 9) (.agg #[.int .i64 a.1, .int .i64 a.2])).put (some 10) (.pointer (some ⟨w.heap.size, 2, none⟩))).put (some 11) (.agg #[.int .i64 b.1, .int .i64 b.2])).put (some 6) (.pointer (some ⟨x, 0, none⟩))).put (some 7) (.pointer (some ⟨y, 0, none⟩))) ∧ Below w.heap.size w W ∧ W.heap[x]? = some (.cells #[.int .i64 a.1, .int .i64 a.2] 23) ∧ W.heap[y]? = some (.cells #[.int .i64 b.1, .int .i64 b.2] 23) ∧ x ≠ y ∧ w.heap.size ≤ x ∧ w.heap.size ≤ y) ?_ ?_
  · (first | go_region_with (fail) | fail)
    all_goals
      refine ⟨?_, ?_, ?_, ?_⟩
      rotate_left 2
      · simp only [Act.put, List.setIfInBounds_toArray, List.set_cons_succ, List.set_cons_zero]
        rfl
      · exact ⟨(by repeat (first | with_reducible exact Below.refl _ _ | with_reducible assumption | with_reducible refine Below.drew ?_ | with_reducible refine Below.setCell ?_ (by first | omega | (simp; omega) | simp) _ | with_reducible refine Below.alloc ?_ (by first | omega | (simp; omega) | simp) _ | with_reducible refine Below.trans ?_ (Below.mono (by with_reducible assumption) (by first | omega | (simp; omega) | simp)))), (by first | ((repeat (first | with_reducible assumption | with_reducible refine heap_drew ?_ | with_reducible refine heap_new _ _ (by first | rfl | (simp; done) | fail "no") | with_reducible apply heap_alloc)); done) | fail "no"), (by first | ((repeat (first | with_reducible assumption | with_reducible refine heap_drew ?_ | with_reducible refine heap_new _ _ (by first | rfl | (simp; done) | fail "no") | with_reducible apply heap_alloc)); done) | fail "no"), by omega, by omega, by omega⟩
  · rintro a' W ⟨x, y, rfl, hK, hA, hB, hxy, hwx, hwy⟩
    simp only [Act.put, List.setIfInBounds_toArray, List.set_cons_succ, List.set_cons_zero]
    (have a0 := cell_heap (o := 0) hA rfl; have a1 := cell_heap (o := 1) hA rfl; have b0 := cell_heap (o := 0) hB rfl; have b1 := cell_heap (o := 1) hB rfl; have fa0 := frozen_heap (o := 0) hA; have fa1 := frozen_heap (o := 1) hA; have fb0 := frozen_heap (o := 0) hB; have fb1 := frozen_heap (o := 1) hB)
    go_wp2_with fail
    refine region_still (by kernel_rfl) (by kernel_rfl) ?_; intro W' hW hC; have z0 := (hC ⟨x, 0, none⟩).trans (a0); have z1 := (hC ⟨x, 1, none⟩).trans (a1); have z2 := (hC ⟨y, 0, none⟩).trans (b0); have z3 := (hC ⟨y, 1, none⟩).trans (b1); replace hW := Lib.hid hW; clear hC; (repeat still_step); refine wpStill_nil ?_; obtain rfl := hW.out; clear hW
    have z1 : IntKind.i64.wrap (b.1 - t) = b.1 - t := kwrap_id (by omega) (by omega)
    have z2 : IntKind.i64.wrap (t - a.1) = t - a.1 := kwrap_id (by omega) (by omega)
    have z3 : IntKind.i64.wrap (b.1 - a.1) = b.1 - a.1 := kwrap_id (by omega) (by omega)
    have z4 : IntKind.i64.wrap (a.2 * (b.1 - t)) = a.2 * (b.1 - t) := kwrap_id (by omega) (by omega)
    have z5 : IntKind.i64.wrap (b.2 * (t - a.1)) = b.2 * (t - a.1) := kwrap_id (by omega) (by omega)
    have z6 : IntKind.i64.wrap (a.2 * (b.1 - t) + b.2 * (t - a.1)) = a.2 * (b.1 - t) + b.2 * (t - a.1) := kwrap_id (by omega) (by omega)
    rw [z1, z2, z3, z4, z5, z6]
    go_wp2_with fail
    go_ret2
    exact ret_ii hve.out rfl (by repeat (first | with_reducible exact Below.refl _ _ | with_reducible assumption | with_reducible refine Below.drew ?_ | with_reducible refine Below.setCell ?_ (by first | omega | (simp; omega) | simp) _ | with_reducible refine Below.alloc ?_ (by first | omega | (simp; omega) | simp) _ | with_reducible refine Below.trans ?_ (Below.mono (by with_reducible assumption) (by first | omega | (simp; omega) | simp))))
set_option maxRecDepth 100000 in
set_option maxHeartbeats 4000000 in
theorem value_sw (a b : Int × Int) (t : Int) (w : World) (h : (0 ≤ a.1 ∧ a.1 ≤ 8000) ∧ (-1099511627776 ≤ a.2 ∧ a.2 ≤ 1099511627776) ∧ (0 ≤ b.1 ∧ b.1 ≤ 8000) ∧ (-1099511627776 ≤ b.2 ∧ b.2 ≤ 1099511627776)) (h1 : -10 ≤ t) (h2 : t ≤ 5000) (hs : b.1 < a.1) :
    Calls Try.prog 35 #[.agg #[.int .i64 a.1, .int .i64 a.2, .int .i64 b.1, .int .i64 b.2], .int .i64 t] w fun e w' => e = .returned (.tuple #[.int .i64 (valN b a t), .int .i64 (a.1 - b.1)]) ∧ Below w.heap.size w w' := by
  obtain ⟨⟨v1, v2⟩, v3, v4⟩ := val_bd2 ⟨h.2.2.1, h.2.2.2, h.1, h.2.1⟩ h1 h2
  obtain ⟨⟨n1, n2⟩, ⟨n3, n4⟩, ⟨n5, n6⟩, n7, n8⟩ := h
  have hve : Hid (b.2 * (a.1 - t) + a.2 * (t - b.1) = valN b a t) := Lib.hid rfl
  go_enter Try.func35, Try.ntmps35
  go_wp2_with fail
  refine wp_abs (fun a0 a' W => ∃ x y, a' = ((((((a0.put (some 8) (.pointer (some ⟨w.heap.size, 0, none⟩))).put (some 9) (.agg #[.int .i64 a.1, .int .i64 a.2])).put (some 10) (.pointer (some ⟨w.heap.size, 2, none⟩))).put (some 11) (.agg #[.int .i64 b.1, .int .i64 b.2])).put (some 6) (.pointer (some ⟨x, 0, none⟩))).put (some 7) (.pointer (some ⟨y, 0, none⟩))) ∧ Below w.heap.size w W ∧ W.heap[x]? = some (.cells #[.int .i64 a.1, .int .i64 a.2] 23) ∧ W.heap[y]? = some (.cells #[.int .i64 b.1, .int .i64 b.2] 23) ∧ x ≠ y ∧ w.heap.size ≤ x ∧ w.heap.size ≤ y) ?_ ?_
  · (first | go_region_with (fail) | fail)
    all_goals
      refine ⟨?_, ?_, ?_, ?_⟩
      rotate_left 2
      · simp only [Act.put, List.setIfInBounds_toArray, List.set_cons_succ, List.set_cons_zero]
        rfl
      · exact ⟨(by repeat (first | with_reducible exact Below.refl _ _ | with_reducible assumption | with_reducible refine Below.drew ?_ | with_reducible refine Below.setCell ?_ (by first | omega | (simp; omega) | simp) _ | with_reducible refine Below.alloc ?_ (by first | omega | (simp; omega) | simp) _ | with_reducible refine Below.trans ?_ (Below.mono (by with_reducible assumption) (by first | omega | (simp; omega) | simp)))), (by first | ((repeat (first | with_reducible assumption | with_reducible refine heap_drew ?_ | with_reducible refine heap_new _ _ (by first | rfl | (simp; done) | fail "no") | with_reducible apply heap_alloc)); done) | fail "no"), (by first | ((repeat (first | with_reducible assumption | with_reducible refine heap_drew ?_ | with_reducible refine heap_new _ _ (by first | rfl | (simp; done) | fail "no") | with_reducible apply heap_alloc)); done) | fail "no"), by omega, by omega, by omega⟩
  · rintro a' W ⟨x, y, rfl, hK, hA, hB, hxy, hwx, hwy⟩
    simp only [Act.put, List.setIfInBounds_toArray, List.set_cons_succ, List.set_cons_zero]
    (have a0 := cell_heap (o := 0) hA rfl; have a1 := cell_heap (o := 1) hA rfl; have b0 := cell_heap (o := 0) hB rfl; have b1 := cell_heap (o := 1) hB rfl; have fa0 := frozen_heap (o := 0) hA; have fa1 := frozen_heap (o := 1) hA; have fb0 := frozen_heap (o := 0) hB; have fb1 := frozen_heap (o := 1) hB)
    go_wp2_with fail
    have A1 := heap_set (o := 0) (v := .int .i64 b.1) hA
    have A2 := heap_set (o := 1) (v := .int .i64 b.2) A1
    simp only [List.setIfInBounds_toArray, List.set_cons_succ, List.set_cons_zero] at A2
    have B1 := heap_set_other (g := x) (o := 1) (v := .int .i64 b.2) (heap_set_other (g := x) (o := 0) (v := .int .i64 b.1) hB (Ne.symm hxy)) (Ne.symm hxy)
    have B2 := heap_set (o := 0) (v := .int .i64 a.1) B1
    have B3 := heap_set (o := 1) (v := .int .i64 a.2) B2
    simp only [List.setIfInBounds_toArray, List.set_cons_succ, List.set_cons_zero] at B3
    have A3 := heap_set_other (g := y) (o := 1) (v := .int .i64 a.2) (heap_set_other (g := y) (o := 0) (v := .int .i64 a.1) A2 hxy) hxy
    have hKs := Below.setCell (Below.setCell (Below.setCell (Below.setCell hK hwx (.int .i64 b.1) (p := ⟨x, 0, none⟩)) hwx (.int .i64 b.2) (p := ⟨x, 1, none⟩)) hwy (.int .i64 a.1) (p := ⟨y, 0, none⟩)) hwy (.int .i64 a.2) (p := ⟨y, 1, none⟩)
    clear a0 a1 b0 b1 fa0 fa1 fb0 fb1 hA hB A1 A2 B1 B2 hK
    have hA := A3
    have hB := B3
    have hK := hKs
    clear A3 B3 hKs
    generalize World.setCell (World.setCell (World.setCell (World.setCell _ _ _) _ _) _ _) _ _ = W5 at *
    (have a0 := cell_heap (o := 0) hA rfl; have a1 := cell_heap (o := 1) hA rfl; have b0 := cell_heap (o := 0) hB rfl; have b1 := cell_heap (o := 1) hB rfl; have fa0 := frozen_heap (o := 0) hA; have fa1 := frozen_heap (o := 1) hA; have fb0 := frozen_heap (o := 0) hB; have fb1 := frozen_heap (o := 1) hB)
    refine region_still (by kernel_rfl) (by kernel_rfl) ?_; intro W' hW hC; have z0 := (hC ⟨x, 0, none⟩).trans (a0); have z1 := (hC ⟨x, 1, none⟩).trans (a1); have z2 := (hC ⟨y, 0, none⟩).trans (b0); have z3 := (hC ⟨y, 1, none⟩).trans (b1); replace hW := Lib.hid hW; clear hC; (repeat still_step); refine wpStill_nil ?_; obtain rfl := hW.out; clear hW
    have z1 : IntKind.i64.wrap (a.1 - t) = a.1 - t := kwrap_id (by omega) (by omega)
    have z2 : IntKind.i64.wrap (t - b.1) = t - b.1 := kwrap_id (by omega) (by omega)
    have z3 : IntKind.i64.wrap (a.1 - b.1) = a.1 - b.1 := kwrap_id (by omega) (by omega)
    have z4 : IntKind.i64.wrap (b.2 * (a.1 - t)) = b.2 * (a.1 - t) := kwrap_id (by omega) (by omega)
    have z5 : IntKind.i64.wrap (a.2 * (t - b.1)) = a.2 * (t - b.1) := kwrap_id (by omega) (by omega)
    have z6 : IntKind.i64.wrap (b.2 * (a.1 - t) + a.2 * (t - b.1)) = b.2 * (a.1 - t) + a.2 * (t - b.1) := kwrap_id (by omega) (by omega)
    rw [z1, z2, z3, z4, z5, z6]
    go_wp2_with fail
    go_ret2
    exact ret_ii hve.out rfl (by repeat (first | with_reducible exact Below.refl _ _ | with_reducible assumption | with_reducible refine Below.drew ?_ | with_reducible refine Below.setCell ?_ (by first | omega | (simp; omega) | simp) _ | with_reducible refine Below.alloc ?_ (by first | omega | (simp; omega) | simp) _ | with_reducible refine Below.trans ?_ (Below.mono (by with_reducible assumption) (by first | omega | (simp; omega) | simp))))
theorem value_any (a b : Int × Int) (t : Int) (w : World) (h : (0 ≤ a.1 ∧ a.1 ≤ 8000) ∧ (-1099511627776 ≤ a.2 ∧ a.2 ≤ 1099511627776) ∧ (0 ≤ b.1 ∧ b.1 ≤ 8000) ∧ (-1099511627776 ≤ b.2 ∧ b.2 ≤ 1099511627776)) (h1 : -10 ≤ t) (h2 : t ≤ 5000) :
    Calls Try.prog 35 #[.agg #[.int .i64 a.1, .int .i64 a.2, .int .i64 b.1, .int .i64 b.2], .int .i64 t] w fun e w' => e = .returned (.tuple #[.int .i64 (valN (ordA a b) (ordB a b) t), .int .i64 ((ordB a b).1 - (ordA a b).1)]) ∧ Below w.heap.size w w' := by
  unfold ordA ordB
  by_cases hs : b.1 < a.1
  · rw [if_pos hs, if_pos hs]; exact value_sw a b t w h h1 h2 hs
  · rw [if_neg hs, if_neg hs]; exact value_lt a b t w h h1 h2 (by omega)
end Go.Proofs.Ytmdledlbkdcmnaa

/-
  What a path that fits does where the ball crosses the line of the stumps, in plain Lean.
  Conditions: none.
-/
namespace Go.Proofs.Ytmdledlbkdcmnaa
open Go.RowKit
/-- The value of a line at the time n / d, times the distance of its points and d. -/
def valQ (a b : Int × Int) (n d : Int) : Int := a.2 * (b.1 * d - n) + b.2 * (n - a.1 * d)
theorem valQ_mid (a b : Int × Int) (n d s t : Int) : valQ a b n d * (t - s) = valN a b s * (t * d - n) + valN a b t * (n - s * d) := by unfold valQ valN; grind
theorem loP_le (s t : Int) (x : LN) : loP s t x ≤ flL x s ∧ loP s t x ≤ flL x t := by unfold loP; omega
theorem hiP_ge (s t : Int) (x : LN) : ceL x s ≤ hiP s t x ∧ ceL x t ≤ hiP s t x := by unfold hiP; omega
/-- At a time between two others a line that fits lies within the range of both. -/
theorem within {l : List BD} {a b : Int × Int} {s t n d : Int} (r : RisingB l) (h2 : 2 ≤ l.length) (hp : Past l s) (hst : s < t) (hd : a.1 < b.1) (h : fitL l a b = true) (h1 : s * d ≤ n) (h3 : n ≤ t * d) :
    loR l s t * ((b.1 - a.1) * d) ≤ valQ a b n d ∧ valQ a b n d ≤ hiR l s t * ((b.1 - a.1) * d) := by
  have H := List.all_eq_true.1 h
  have e := valQ_mid a b n d s t
  constructor
  · obtain ⟨i, j, u, v, hij, hu, hv, f⟩ := loR_some h2 s t
    obtain ⟨q1, q2⟩ := loP_le s t (loL u v)
    rw [← f] at q1 q2
    have ps := hp v (List.mem_of_getElem? hv)
    have l1 := low_under (t := s) hd (H u (List.mem_of_getElem? hu)) (H v (List.mem_of_getElem? hv)) (r i j u v hij hu hv) ps
    have l2 := low_under (t := t) hd (H u (List.mem_of_getElem? hu)) (H v (List.mem_of_getElem? hv)) (r i j u v hij hu hv) (by omega)
    have m1 := Int.mul_le_mul_of_nonneg_right q1 (c := b.1 - a.1) (by omega)
    have m2 := Int.mul_le_mul_of_nonneg_right q2 (c := b.1 - a.1) (by omega)
    have k1 := Int.mul_le_mul_of_nonneg_right (Int.le_trans m1 l1) (c := t * d - n) (by omega)
    have k2 := Int.mul_le_mul_of_nonneg_right (Int.le_trans m2 l2) (c := n - s * d) (by omega)
    refine Int.le_of_mul_le_mul_right (a := t - s) ?_ (by omega)
    rw [e]
    refine Int.le_trans ?_ (Int.add_le_add k1 k2)
    exact Int.le_of_eq (by grind)
  · obtain ⟨i, j, u, v, hij, hu, hv, f⟩ := hiR_some h2 s t
    obtain ⟨q1, q2⟩ := hiP_ge s t (upL u v)
    rw [← f] at q1 q2
    have ps := hp v (List.mem_of_getElem? hv)
    have l1 := up_over (t := s) hd (H u (List.mem_of_getElem? hu)) (H v (List.mem_of_getElem? hv)) (r i j u v hij hu hv) ps
    have l2 := up_over (t := t) hd (H u (List.mem_of_getElem? hu)) (H v (List.mem_of_getElem? hv)) (r i j u v hij hu hv) (by omega)
    have m1 := Int.mul_le_mul_of_nonneg_right q1 (c := b.1 - a.1) (by omega)
    have m2 := Int.mul_le_mul_of_nonneg_right q2 (c := b.1 - a.1) (by omega)
    have k1 := Int.mul_le_mul_of_nonneg_right (Int.le_trans l1 m1) (c := t * d - n) (by omega)
    have k2 := Int.mul_le_mul_of_nonneg_right (Int.le_trans l2 m2) (c := n - s * d) (by omega)
    refine Int.le_of_mul_le_mul_right (a := t - s) ?_ (by omega)
    rw [e]
    refine Int.le_trans (Int.add_le_add k1 k2) ?_
    exact Int.le_of_eq (by grind)
/-- A path that fits an axis has a range there that is not empty. -/
theorem range_le {l : List BD} {s t : Int} (r : RisingB l) (ho : ∀ b ∈ l, okB b) (h2 : 2 ≤ l.length) (hp : Past l s) (h : fitsB l = true) : loR l s t ≤ hiR l s t := by
  have q := lo_le_hi r ho h2 hp h
  obtain ⟨i, j, u, v, hij, hu, hv, f⟩ := loR_some h2 s t
  obtain ⟨k, m, x, y, hkm, hx, hy, g⟩ := hiR_some h2 s t
  have a1 := loR_all s s hij hu hv
  have a2 := hiR_all s s hkm hx hy
  rw [loP_same] at a1
  rw [hiP_same] at a2
  have b1 := loP_le s t (loL u v)
  have b2 := hiP_ge s t (upL x y)
  omega
/-- CROSSED on the axis X: the times between which the ball is at the line of the stumps. -/
theorem crossed {x : List BD} {a b : Int × Int} (r : RisingB x) (ho : ∀ b ∈ x, okB b) (h2 : 2 ≤ x.length) (h : fitL x a b = true) (hd : a.1 < b.1) (hl : 0 < (lastB x).2.1) (hh : hiR x ((lastB x).1 + 400) ((lastB x).1 + 400) < 0) :
    0 < valN a b ((lastB x).1 + crsF x - 1) ∧ valN a b ((lastB x).1 + crsL x + 1) < 0 ∧ crsF x ≤ crsL x + 1 ∧ 1 ≤ crsF x ∧ crsL x < 400 := by
  have hf := fitsB_of_line r hd h
  obtain ⟨⟨f1, f2, f3, f4⟩, f5, f6, f7⟩ := crs_k r ho h2 hf hl hh
  have p1 : Past x ((lastB x).1 + (crsF x - 1 : Nat)) := past_last r h2 (by omega)
  have p2 : Past x ((lastB x).1 + (crsL x + 1 : Nat)) := past_last r h2 (by omega)
  have c1 := f4 (crsF x - 1) (by omega)
  have c2 := f7 (crsL x + 1) (by omega) (by omega)
  have e1 := (enclosed r h2 p1 hd h).1
  have e2 := (enclosed r h2 p2 hd h).2
  have le := lo_le_hi r ho h2 p2 hf
  have g1 : 0 < loR x ((lastB x).1 + (crsF x - 1 : Nat)) ((lastB x).1 + (crsF x - 1 : Nat)) * (b.1 - a.1) := Int.mul_pos c1 (by omega)
  have g2 : hiR x ((lastB x).1 + (crsL x + 1 : Nat)) ((lastB x).1 + (crsL x + 1 : Nat)) * (b.1 - a.1) < 0 := Int.mul_neg_of_neg_of_pos c2 (by omega)
  have t1 : (lastB x).1 + crsF x - 1 = (lastB x).1 + (crsF x - 1 : Nat) := by omega
  have t2 : (lastB x).1 + crsL x + 1 = (lastB x).1 + (crsL x + 1 : Nat) := by omega
  rw [t1, t2]
  refine ⟨by omega, by omega, ?_, f2, f6⟩
  rcases Nat.lt_or_ge (crsL x + 1) (crsF x) with g | g
  · have := f4 (crsL x + 1) g
    omega
  · exact g
theorem valN_nd (a b : Int × Int) (t : Int) : valN a b t = (a.2 * b.1 - b.2 * a.1) - t * (a.2 - b.2) := by unfold valN; grind
/-- The whole of a crossing for a path that fits. -/
structure Crossed (l : List SN) (xa xb ya yb za zb : Int × Int) (n d : Int) : Prop where
  dpos : 0 < d
  tl : 0 ≤ cT1 l
  tt : cT1 l < cT2 l
  th : cT2 l ≤ 4400
  lo : cT1 l * d < n
  hi : n < cT2 l * d
  ylo : loR (bnds 1 (bhdL l)) (cT1 l) (cT2 l) * ((yb.1 - ya.1) * d) ≤ valQ ya yb n d
  yhi : valQ ya yb n d ≤ hiR (bnds 1 (bhdL l)) (cT1 l) (cT2 l) * ((yb.1 - ya.1) * d)
  zlo : fallLo (loR (bnds 2 (bhdL l)) (cT1 l) (cT2 l)) (hiR (bnds 2 (bhdL l)) (cT1 l) (cT2 l)) (cT1 l) (cT2 l) * (80000 * (zb.1 - za.1)) * (d * d) ≤ valQ za zb n d * d - 981 * (zb.1 - za.1) * (n * n)
  zhi : valQ za zb n d * d - 981 * (zb.1 - za.1) * (n * n) ≤ fallHi (loR (bnds 2 (bhdL l)) (cT1 l) (cT2 l)) (hiR (bnds 2 (bhdL l)) (cT1 l) (cT2 l)) (cT1 l) (cT2 l) * (80000 * (zb.1 - za.1)) * (d * d)
theorem sq_le {a b : Int} (h0 : 0 ≤ a) (h : a ≤ b) : a * a ≤ b * b := Int.mul_le_mul h h h0 (by omega)
theorem fall_lo {lo hi e l n d w u : Int} (he : 0 ≤ e) (hl : e ≤ l) (hlh : lo ≤ hi) (hd : 0 < d) (hw : 0 < w) (hn0 : 0 ≤ n) (hn : n ≤ l * d) (h : lo * (w * d) ≤ u) :
    fallLo lo hi e l * (80000 * w) * (d * d) ≤ u * d - 981 * w * (n * n) := by
  have hs := sq_le he hl
  have hc : lo - 981 * l * l ≤ hi - 981 * e * e := by
    have e1 : 981 * l * l = 981 * (l * l) := by grind
    have e2 : 981 * e * e = 981 * (e * e) := by grind
    omega
  unfold fallLo
  rw [if_pos hc]
  have q := Int.ediv_mul_le (lo - 981 * l * l) (show (80000 : Int) ≠ 0 by omega)
  generalize (lo - 981 * l * l) / 80000 = z at *
  have a1 := Int.mul_le_mul_of_nonneg_right q (c := w * (d * d)) (Int.mul_nonneg (by omega) (Int.mul_nonneg (by omega) (by omega)))
  have a2 := Int.mul_le_mul_of_nonneg_right h (c := d) (by omega)
  have a3 := sq_le hn0 hn
  have a4 := Int.mul_le_mul_of_nonneg_left a3 (c := 981 * w) (by omega)
  have e1 : z * (80000 * w) * (d * d) = z * 80000 * (w * (d * d)) := by grind
  rw [e1]
  refine Int.le_trans a1 ?_
  have e2 : (lo - 981 * l * l) * (w * (d * d)) = lo * (w * d) * d - 981 * w * (l * d * (l * d)) := by grind
  rw [e2]
  omega
theorem fall_hi {lo hi e l n d w u : Int} (he : 0 ≤ e) (hl : e ≤ l) (hlh : lo ≤ hi) (hd : 0 < d) (hw : 0 < w) (hn : e * d ≤ n) (h : u ≤ hi * (w * d)) :
    u * d - 981 * w * (n * n) ≤ fallHi lo hi e l * (80000 * w) * (d * d) := by
  have hs := sq_le he hl
  have hc : lo - 981 * l * l ≤ hi - 981 * e * e := by
    have e1 : 981 * l * l = 981 * (l * l) := by grind
    have e2 : 981 * e * e = 981 * (e * e) := by grind
    omega
  unfold fallHi
  rw [if_pos hc]
  have q := Int.ediv_mul_le (-(hi - 981 * e * e)) (show (80000 : Int) ≠ 0 by omega)
  generalize -(hi - 981 * e * e) / 80000 = z at *
  have q' : hi - 981 * e * e ≤ -z * 80000 := by rw [Int.neg_mul]; omega
  have a1 := Int.mul_le_mul_of_nonneg_right q' (c := w * (d * d)) (Int.mul_nonneg (by omega) (Int.mul_nonneg (by omega) (by omega)))
  have a2 := Int.mul_le_mul_of_nonneg_right h (c := d) (by omega)
  have a3 := sq_le (Int.mul_nonneg he (Int.le_of_lt hd)) hn
  have a4 := Int.mul_le_mul_of_nonneg_left a3 (c := 981 * w) (by omega)
  have e1 : -z * (80000 * w) * (d * d) = -z * 80000 * (w * (d * d)) := by grind
  rw [e1]
  refine Int.le_trans ?_ a1
  have e2 : (hi - 981 * e * e) * (w * (d * d)) = hi * (w * d) * d - 981 * w * (e * d * (e * d)) := by grind
  rw [e2]
  omega
theorem lastB_t {l : List BD} (ho : ∀ b ∈ l, okB b) (h : 2 ≤ l.length) : 0 ≤ (lastB l).1 ∧ (lastB l).1 ≤ 4000 :=
  (ho _ (List.mem_of_getElem? (last_ex h))).1
theorem bnds_last (ax ay : Int) {l : List SN} (h : 2 ≤ l.length) : (lastB (bnds ax l)).1 = (lastB (bnds ay l)).1 := by
  obtain ⟨s, hs⟩ := some_of (l := (bnds ax l)) (i := l.length - 1) (by rw [bnds_len]; omega)
  unfold bnds at hs
  rw [List.getElem?_map] at hs
  cases hq : l[l.length - 1]? with
  | none => rw [hq] at hs; simp at hs
  | some q =>
    have e : ∀ ax, lastB (bnds ax l) = bndS ax q := fun ax => lastB_some (by rw [bnds_len]; unfold bnds; rw [List.getElem?_map, hq]; rfl)
    rw [e, e, bndS_t, bndS_t]
theorem crossed_all {l : List SN} (hc : crsE l = 0) {xa xb ya yb za zb : Int × Int} (hx : xa.1 < xb.1) (hy : ya.1 < yb.1) (hz : za.1 < zb.1) (fx : fitL (bnds 0 (bhdL l)) xa xb = true) (fy : fitL (bnds 1 (bhdL l)) ya yb = true) (fz : fitL (bnds 2 (bhdL l)) za zb = true) :
    Crossed l xa xb ya yb za zb (xa.2 * xb.1 - xb.2 * xa.1) (xa.2 - xb.2) := by
  have hb : behE l = 0 := by
    unfold crsE at hc; split at hc
    · omega
    · omega
  have h2 : 2 ≤ (bhdL l).length := (behE_len hb).2
  have l2 : ∀ ax, 2 ≤ (bnds ax (bhdL l)).length := fun ax => by rw [bnds_len]; exact h2
  unfold crsE at hc
  rw [if_neg (by omega)] at hc
  split at hc
  · omega
  split at hc
  · omega
  split at hc
  · omega
  rename_i hpo hco hno
  have r := fun ax => bnds_rise ax l
  have ho := fun ax => bnds_ok (ax := ax) (l := l)
  obtain ⟨v1, v2, k1, k2, k3⟩ := crossed (r 0) (ho 0) (l2 0) fx hx (by omega) (by omega)
  have T0 := lastB_t (ho 0) (l2 0)
  have e1 : cT1 l = (lastB (bnds 0 (bhdL l))).1 + crsF (bnds 0 (bhdL l)) - 1 := rfl
  have e2 : cT2 l = (lastB (bnds 0 (bhdL l))).1 + crsL (bnds 0 (bhdL l)) + 1 := rfl
  rw [← e1, valN_nd] at v1
  rw [← e2, valN_nd] at v2
  have b1 : (lastB (bnds 0 (bhdL l))).1 ≤ cT1 l := by omega
  have b2 : cT1 l < cT2 l := by omega
  have b3 : cT2 l ≤ 4400 := by omega
  clear e1 e2
  generalize xa.2 * xb.1 - xb.2 * xa.1 = n at *
  generalize xa.2 - xb.2 = d at *
  generalize hA : cT1 l = A at *
  generalize hB : cT2 l = B at *
  have hdp : 0 < d := by
    have : 0 < (B - A) * d := by rw [Int.sub_mul]; omega
    exact Int.pos_of_mul_pos_right this (by omega) |> fun h => h
  have p : ∀ ax, Past (bnds ax (bhdL l)) A := fun ax => past_last (r ax) (l2 ax) (by rw [bnds_last ax 0 h2]; exact b1)
  have wy := within (n := n) (d := d) (r 1) (l2 1) (p 1) b2 hy fy (by omega) (by omega)
  have wz := within (n := n) (d := d) (r 2) (l2 2) (p 2) b2 hz fz (by omega) (by omega)
  have hlz := range_le (t := B) (r 2) (ho 2) (l2 2) (p 2) (fitsB_of_line (r 2) hz fz)
  have hA0 : 0 ≤ A := by omega
  have hAd := Int.mul_nonneg hA0 (Int.le_of_lt hdp)
  exact { dpos := hdp, tl := by rw [hA]; exact hA0, tt := by rw [hA, hB]; exact b2, th := by rw [hB]; exact b3, lo := by rw [hA]; omega, hi := by rw [hB]; omega, ylo := by rw [hA, hB]; exact wy.1, yhi := by rw [hA, hB]; exact wy.2,
          zlo := by rw [hA, hB]; exact fall_lo hA0 (Int.le_of_lt b2) hlz hdp (by omega) (by omega) (by omega) wz.1,
          zhi := by rw [hA, hB]; exact fall_hi hA0 (Int.le_of_lt b2) hlz hdp (by omega) (by omega) wz.2 }
end Go.Proofs.Ytmdledlbkdcmnaa

/-
  The walks of the statements on enclosures: Fits and what it encloses.
  Conditions: none.
-/
namespace Go.Proofs.Ytmdledlbkdcmnaa
open Go.RowKit
set_option maxRecDepth 100000 in
set_option maxHeartbeats 4000000 in
theorem pathFits_walk (v : Value) (l : List SN) (ax : Int) (a b : Int × Int) (w : World) (h : Seens w v l) : Calls Try.prog 7 #[v, .int .i64 ax, .agg #[.int .i64 a.1, .int .i64 a.2, .int .i64 b.1, .int .i64 b.2]] w fun e w' => e = .returned (.bool true) ∧ Below w.heap.size w w' := by
  have hf := Lib.hid (fun w' (h : Seens w' v l) => few_any v l w' h)
  have h1 := Lib.hid (fun w' (h : Seens w' v l) => ptfits_any v l ax a b w' h)
  have h2 := Lib.hid (fun w' (h : Seens w' v l) => rptfits_any v l ax a b w' h)
  unfold pfV at h1 h2
  generalize pfB l ax a b = A at *
  generalize pfE l ax a b = E at *
  generalize fewB l = fb at *
  cases fb
  all_goals
    go_enter Try.func7, Try.ntmps7
    go_wp2_with (first
      | (go_at_call 28; refine (awake33_any _).mono ?_; rintro e w1 ⟨rfl, hb1⟩; have hP := heap_old hb1 (heap_new w (.cells #[.int .i64 a.1, .int .i64 a.2, .int .i64 b.1, .int .i64 b.2] 24) rfl); have hK := Below.next1 (Below.refl w.heap.size w) (Nat.le_refl _) hb1; clear hb1; (have p0 := cell_heap (o := 0) hP rfl; have p1 := cell_heap (o := 1) hP rfl; have p2 := cell_heap (o := 2) hP rfl; have p3 := cell_heap (o := 3) hP rfl))
      | (go_at_call 29; refine (hf.out _ (h.below hK)).mono ?_; rintro e w2 ⟨rfl, hb2⟩; replace hK := Below.next hK (Nat.le_refl _) hb2; replace hP := heap_old hb2 hP; clear hb2; clear p0 p1 p2 p3; (have p0 := cell_heap (o := 0) hP rfl; have p1 := cell_heap (o := 1) hP rfl; have p2 := cell_heap (o := 2) hP rfl; have p3 := cell_heap (o := 3) hP rfl))
      | (go_at_call 33; refine (h1.out _ (h.below hK)).mono ?_; rintro e w3 ⟨rfl, hb3⟩; replace hK := Below.next hK (Nat.le_refl _) hb3; replace hP := heap_old hb3 hP; clear hb3; clear p0 p1 p2 p3; (have p0 := cell_heap (o := 0) hP rfl; have p1 := cell_heap (o := 1) hP rfl; have p2 := cell_heap (o := 2) hP rfl; have p3 := cell_heap (o := 3) hP rfl))
      | (go_at_call 34; refine (h2.out _ (h.below hK)).mono ?_; rintro e w4 ⟨rfl, hb4⟩; replace hK := Below.next hK (Nat.le_refl _) hb4; clear hb4))
    go_ret
    exact ⟨rfl, hK⟩
theorem bndE_range {l : List SN} {ax : Int} (h : bndE l ax = 0) : 0 ≤ ax ∧ ax ≤ 2 := (bndE_ok h).1
theorem pfE_parts {l : List SN} {ax : Int} {a b : Int × Int} (h1 : pfE l ax a b = 0) : bndE l ax = 0 ∧ ¬(outP a ∨ outP b) ∧ (ordA a b).1 < (ordB a b).1 := by
  unfold pfE at h1
  split at h1
  · omega
  · rename_i hb
    split at h1
    · omega
    · rename_i ho
      split at h1
      · omega
      · refine ⟨by simpa using hb, ho, ?_⟩
        unfold ordA ordB
        by_cases hs : b.1 < a.1
        · rw [if_pos hs, if_pos hs]; exact hs
        · rw [if_neg hs, if_neg hs]; omega
theorem pfB_fit {l : List SN} {ax : Int} {a b : Int × Int} (h2 : pfB l ax a b = true) : pfE l ax a b = 0 ∧ fitL (bnds ax (bhdL l)) (ordA a b) (ordB a b) = true := by
  unfold pfB at h2; simp only [Bool.and_eq_true, decide_eq_true_eq] at h2; exact h2
theorem linE_parts {l : List SN} {ax t : Int} (h3 : linE l ax t = 0) : (lastB (bnds ax (bhdL l))).1 ≤ t ∧ t ≤ (lastB (bnds ax (bhdL l))).1 + 400 := by
  unfold linE at h3
  split at h3
  · omega
  · split at h3
    · omega
    · split at h3
      · omega
      · omega
/-- ENCLOSES, as the program's results tell it. -/
theorem encloses {l : List SN} {ax t : Int} {a b : Int × Int} (h2 : pfB l ax a b = true) (h3 : linE l ax t = 0) :
    (0 ≤ t ∧ t ≤ 4400) ∧ (-300000000000000 ≤ linLo l ax t ∧ linLo l ax t ≤ 300000000000000) ∧ (-300000000000000 ≤ linHi l ax t ∧ linHi l ax t ≤ 300000000000000) ∧ linLo l ax t * ((ordB a b).1 - (ordA a b).1) ≤ valN (ordA a b) (ordB a b) t ∧ valN (ordA a b) (ordB a b) t ≤ linHi l ax t * ((ordB a b).1 - (ordA a b).1) := by
  obtain ⟨h1, hf⟩ := pfB_fit h2
  obtain ⟨hb, ho, hlt⟩ := pfE_parts h1
  obtain ⟨⟨x1, x2⟩, hbe⟩ := bndE_ok hb
  have l2 : 2 ≤ (bnds ax (bhdL l)).length := by rw [bnds_len]; exact (behE_len hbe).2
  obtain ⟨t1, t2⟩ := linE_parts h3
  have T := lastB_t (bnds_ok (ax := ax) (l := l)) l2
  have := enclosed (bnds_rise ax l) l2 (past_last (bnds_rise ax l) l2 t1) hlt hf
  have y1 := loR_bd (bnds_ok (ax := ax) (l := l)) (bnds_rise ax l) (show -10 ≤ t by omega) (show t ≤ 5000 by omega) (show -10 ≤ t by omega) (show t ≤ 5000 by omega)
  have y2 := hiR_bd (bnds_ok (ax := ax) (l := l)) (bnds_rise ax l) (show -10 ≤ t by omega) (show t ≤ 5000 by omega) (show -10 ≤ t by omega) (show t ≤ 5000 by omega)
  unfold linLo linHi
  rw [if_pos h3, if_pos h3]
  exact ⟨⟨by omega, by omega⟩, y1, y2, this⟩
theorem conflict_no {l : List SN} {ax t : Int} {a b : Int × Int} (h2 : pfB l ax a b = true) (h3 : linE l ax t = 13) : False := by
  obtain ⟨h1, hf⟩ := pfB_fit h2
  obtain ⟨hb, ho, hlt⟩ := pfE_parts h1
  have := fitsB_of_line (bnds_rise ax l) hlt hf
  obtain ⟨⟨x1, x2⟩, hbe⟩ := bndE_ok hb
  unfold linE at h3
  rw [if_neg (by omega), if_neg (by omega), if_pos this] at h3
  split at h3 <;> omega
theorem ord_in {a b : Int × Int} (ho : ¬(outP a ∨ outP b)) : (0 ≤ (ordA a b).1 ∧ (ordA a b).1 ≤ 8000) ∧ (-1099511627776 ≤ (ordA a b).2 ∧ (ordA a b).2 ≤ 1099511627776) ∧ (0 ≤ (ordB a b).1 ∧ (ordB a b).1 ≤ 8000) ∧ (-1099511627776 ≤ (ordB a b).2 ∧ (ordB a b).2 ≤ 1099511627776) := by
  have := in_of ho
  unfold ordA ordB
  by_cases hs : b.1 < a.1
  · rw [if_pos hs, if_pos hs]; omega
  · rw [if_neg hs, if_neg hs]; omega
set_option maxRecDepth 100000 in
set_option maxHeartbeats 4000000 in
theorem pathEncloses_few (v : Value) (l : List SN) (a b : Int × Int) (n t : Int) (w : World) (h : Seens w v l) (hn1 : -9223372036854775808 ≤ n) (hn2 : n ≤ 9223372036854775807) (hfb : fewB l = false) : Calls Try.prog 8 #[v, .agg #[.int .i64 a.1, .int .i64 a.2, .int .i64 b.1, .int .i64 b.2], .agg #[.int .i64 n, .int .i64 t]] w fun e w' => e = .returned (.bool true) ∧ Below w.heap.size w w' := by
  have hf := Lib.hid (fun w' (h : Seens w' v l) => few_any v l w' h)
  have hax : IntKind.i64.wrap (n.tmod 3) = n.tmod 3 := kwrap_id (by have := Int.tmod_lt_of_pos n (show (0:Int) < 3 by omega); have := Int.lt_tmod_of_pos n (show (0:Int) < 3 by omega); omega) (by have := Int.tmod_lt_of_pos n (show (0:Int) < 3 by omega); omega)
  generalize hA : n.tmod 3 = ax at *
  have h1 := Lib.hid (fun w' (h : Seens w' v l) => ptfits_any v l ax a b w' h)
  have h2 := Lib.hid (fun w' (h : Seens w' v l) => lines_any v l ax t w' h)
  unfold pfV at h1
  unfold linV at h2
  rw [hfb] at hf
  clear hA
  go_enter Try.func8, Try.ntmps8
  go_wp2_with (first
    | ((go_at_call 28; refine (awake33_any _).mono ?_; rintro e w1 ⟨rfl, hb1⟩; have hP := heap_old hb1 (heap_alloc (X := .cells #[.int .i64 n, .int .i64 t] 23) (heap_new w (.cells #[.int .i64 a.1, .int .i64 a.2, .int .i64 b.1, .int .i64 b.2] 24) rfl)); have hN := heap_old hb1 (heap_new (w.alloc (.cells #[.int .i64 a.1, .int .i64 a.2, .int .i64 b.1, .int .i64 b.2] 24)) (.cells #[.int .i64 n, .int .i64 t] 23) (b := w.heap.size + 1) (by simp)); have hK := Below.next2 (Below.refl w.heap.size w) (Nat.le_refl _) hb1; clear hb1; (have p0 := cell_heap (o := 0) hP rfl; have p1 := cell_heap (o := 1) hP rfl; have p2 := cell_heap (o := 2) hP rfl; have p3 := cell_heap (o := 3) hP rfl); (have n0 := cell_heap (o := 0) hN rfl; have n1 := cell_heap (o := 1) hN rfl)))
    | ((go_at_call 29; refine (hf.out _ (h.below hK)).mono ?_; rintro e w2 ⟨rfl, hb2⟩; replace hK := Below.next hK (Nat.le_refl _) hb2; replace hP := heap_old hb2 hP; replace hN := heap_old hb2 hN; clear hb2; clear p0 p1 p2 p3 n0 n1; (have p0 := cell_heap (o := 0) hP rfl; have p1 := cell_heap (o := 1) hP rfl; have p2 := cell_heap (o := 2) hP rfl; have p3 := cell_heap (o := 3) hP rfl); (have n0 := cell_heap (o := 0) hN rfl; have n1 := cell_heap (o := 1) hN rfl))))
  go_ret
  exact ⟨rfl, hK⟩
set_option maxRecDepth 100000 in
set_option maxHeartbeats 4000000 in
theorem pathEncloses_bad (v : Value) (l : List SN) (a b : Int × Int) (n t : Int) (w : World) (h : Seens w v l) (hn1 : -9223372036854775808 ≤ n) (hn2 : n ≤ 9223372036854775807) (hfb : fewB l = true) (hB : pfB l (n.tmod 3) a b = false) : Calls Try.prog 8 #[v, .agg #[.int .i64 a.1, .int .i64 a.2, .int .i64 b.1, .int .i64 b.2], .agg #[.int .i64 n, .int .i64 t]] w fun e w' => e = .returned (.bool true) ∧ Below w.heap.size w w' := by
  have hf := Lib.hid (fun w' (h : Seens w' v l) => few_any v l w' h)
  have hax : IntKind.i64.wrap (n.tmod 3) = n.tmod 3 := kwrap_id (by have := Int.tmod_lt_of_pos n (show (0:Int) < 3 by omega); have := Int.lt_tmod_of_pos n (show (0:Int) < 3 by omega); omega) (by have := Int.tmod_lt_of_pos n (show (0:Int) < 3 by omega); omega)
  generalize hA : n.tmod 3 = ax at *
  have h1 := Lib.hid (fun w' (h : Seens w' v l) => ptfits_any v l ax a b w' h)
  have h2 := Lib.hid (fun w' (h : Seens w' v l) => lines_any v l ax t w' h)
  unfold pfV at h1
  unfold linV at h2
  rw [hfb] at hf
  rw [hB] at h1
  generalize pfE l ax a b = E at *
  generalize linE l ax t = K at *
  generalize linLo l ax t = lo at *
  generalize linHi l ax t = hi at *
  go_enter Try.func8, Try.ntmps8
  go_wp2_with (first
    | ((go_at_call 28; refine (awake33_any _).mono ?_; rintro e w1 ⟨rfl, hb1⟩; have hP := heap_old hb1 (heap_alloc (X := .cells #[.int .i64 n, .int .i64 t] 23) (heap_new w (.cells #[.int .i64 a.1, .int .i64 a.2, .int .i64 b.1, .int .i64 b.2] 24) rfl)); have hN := heap_old hb1 (heap_new (w.alloc (.cells #[.int .i64 a.1, .int .i64 a.2, .int .i64 b.1, .int .i64 b.2] 24)) (.cells #[.int .i64 n, .int .i64 t] 23) (b := w.heap.size + 1) (by simp)); have hK := Below.next2 (Below.refl w.heap.size w) (Nat.le_refl _) hb1; clear hb1; (have p0 := cell_heap (o := 0) hP rfl; have p1 := cell_heap (o := 1) hP rfl; have p2 := cell_heap (o := 2) hP rfl; have p3 := cell_heap (o := 3) hP rfl); (have n0 := cell_heap (o := 0) hN rfl; have n1 := cell_heap (o := 1) hN rfl)))
    | ((go_at_call 29; refine (hf.out _ (h.below hK)).mono ?_; rintro e w2 ⟨rfl, hb2⟩; replace hK := Below.next hK (Nat.le_refl _) hb2; replace hP := heap_old hb2 hP; replace hN := heap_old hb2 hN; clear hb2; clear p0 p1 p2 p3 n0 n1; (have p0 := cell_heap (o := 0) hP rfl; have p1 := cell_heap (o := 1) hP rfl; have p2 := cell_heap (o := 2) hP rfl; have p3 := cell_heap (o := 3) hP rfl); (have n0 := cell_heap (o := 0) hN rfl; have n1 := cell_heap (o := 1) hN rfl))))
  refine region_still (by kernel_rfl) (by kernel_rfl) ?_; intro W' hW hC; have z0 := (hC ⟨w.heap.size + 1, 0, none⟩).trans (n0); have z1 := (hC ⟨w.heap.size + 1, 1, none⟩).trans (n1); replace hW := Lib.hid hW; clear hC; (repeat still_step); refine wpStill_nil ?_; obtain rfl := hW.out; clear hW
  replace hP := heap_drew hP
  replace hK := Below.drew hK
  generalize w2.drew = wD at *
  clear p0 p1 p2 p3 n0 n1 hN
  (have p0 := cell_heap (o := 0) hP rfl; have p1 := cell_heap (o := 1) hP rfl; have p2 := cell_heap (o := 2) hP rfl; have p3 := cell_heap (o := 3) hP rfl)
  go_wp2_with (first
    | ((go_at_call 33; refine (h1.out _ (h.below hK)).mono ?_; rintro e w3 ⟨rfl, hb3⟩; replace hK := Below.next hK (Nat.le_refl _) hb3; replace hP := heap_old hb3 hP; clear hb3; clear p0 p1 p2 p3; (have p0 := cell_heap (o := 0) hP rfl; have p1 := cell_heap (o := 1) hP rfl; have p2 := cell_heap (o := 2) hP rfl; have p3 := cell_heap (o := 3) hP rfl)))
    | ((go_at_call 30; refine (h2.out _ (h.below hK)).mono ?_; rintro e w4 ⟨rfl, hb4⟩; replace hK := Below.next hK (Nat.le_refl _) hb4; have hK4 := hK.alloc hK.size (.cells #[.int .i64 lo, .int .i64 hi] 34); have hR := heap_new w4 (.cells #[.int .i64 lo, .int .i64 hi] 34) rfl; replace hP := heap_alloc (X := .cells #[.int .i64 lo, .int .i64 hi] 34) (heap_old hb4 hP); clear hb4; clear p0 p1 p2 p3; (have p0 := cell_heap (o := 0) hP rfl; have p1 := cell_heap (o := 1) hP rfl; have p2 := cell_heap (o := 2) hP rfl; have p3 := cell_heap (o := 3) hP rfl)))
    | ((go_at_call 35; refine (hv.out _).mono ?_; rintro e w5 ⟨rfl, hb5⟩; have hK5 := Below.next hK4 (Nat.le_refl _) hb5; replace hR := heap_old hb5 hR; have r0 := cell_heap (o := 0) hR rfl; have r1 := cell_heap (o := 1) hR rfl)))
  all_goals
    go_ret
    first | exact ⟨rfl, hK4⟩ | exact ⟨rfl, hK5⟩
set_option maxRecDepth 100000 in
set_option maxHeartbeats 4000000 in
theorem pathEncloses_err (v : Value) (l : List SN) (a b : Int × Int) (n t : Int) (w : World) (h : Seens w v l) (hn1 : -9223372036854775808 ≤ n) (hn2 : n ≤ 9223372036854775807) (hfb : fewB l = true) (hB : pfB l (n.tmod 3) a b = true) (hL : linE l (n.tmod 3) t ≠ 0) : Calls Try.prog 8 #[v, .agg #[.int .i64 a.1, .int .i64 a.2, .int .i64 b.1, .int .i64 b.2], .agg #[.int .i64 n, .int .i64 t]] w fun e w' => e = .returned (.bool true) ∧ Below w.heap.size w w' := by
  have hf := Lib.hid (fun w' (h : Seens w' v l) => few_any v l w' h)
  have hax : IntKind.i64.wrap (n.tmod 3) = n.tmod 3 := kwrap_id (by have := Int.tmod_lt_of_pos n (show (0:Int) < 3 by omega); have := Int.lt_tmod_of_pos n (show (0:Int) < 3 by omega); omega) (by have := Int.tmod_lt_of_pos n (show (0:Int) < 3 by omega); omega)
  generalize hA : n.tmod 3 = ax at *
  have h1 := Lib.hid (fun w' (h : Seens w' v l) => ptfits_any v l ax a b w' h)
  have h2 := Lib.hid (fun w' (h : Seens w' v l) => lines_any v l ax t w' h)
  unfold pfV at h1
  unfold linV at h2
  rw [hfb] at hf
  have hE := (pfB_fit hB).1
  have k0 : (linE l ax t != 0) = true := by simpa using hL
  have k13 : (linE l ax t != 13) = true := by simpa using fun e => conflict_no hB e
  rw [hB, hE] at h1
  clear hL hB hE
  generalize linE l ax t = K at *
  generalize linLo l ax t = lo at *
  generalize linHi l ax t = hi at *
  go_enter Try.func8, Try.ntmps8
  go_wp2_with (first
    | ((go_at_call 28; refine (awake33_any _).mono ?_; rintro e w1 ⟨rfl, hb1⟩; have hP := heap_old hb1 (heap_alloc (X := .cells #[.int .i64 n, .int .i64 t] 23) (heap_new w (.cells #[.int .i64 a.1, .int .i64 a.2, .int .i64 b.1, .int .i64 b.2] 24) rfl)); have hN := heap_old hb1 (heap_new (w.alloc (.cells #[.int .i64 a.1, .int .i64 a.2, .int .i64 b.1, .int .i64 b.2] 24)) (.cells #[.int .i64 n, .int .i64 t] 23) (b := w.heap.size + 1) (by simp)); have hK := Below.next2 (Below.refl w.heap.size w) (Nat.le_refl _) hb1; clear hb1; (have p0 := cell_heap (o := 0) hP rfl; have p1 := cell_heap (o := 1) hP rfl; have p2 := cell_heap (o := 2) hP rfl; have p3 := cell_heap (o := 3) hP rfl); (have n0 := cell_heap (o := 0) hN rfl; have n1 := cell_heap (o := 1) hN rfl)))
    | ((go_at_call 29; refine (hf.out _ (h.below hK)).mono ?_; rintro e w2 ⟨rfl, hb2⟩; replace hK := Below.next hK (Nat.le_refl _) hb2; replace hP := heap_old hb2 hP; replace hN := heap_old hb2 hN; clear hb2; clear p0 p1 p2 p3 n0 n1; (have p0 := cell_heap (o := 0) hP rfl; have p1 := cell_heap (o := 1) hP rfl; have p2 := cell_heap (o := 2) hP rfl; have p3 := cell_heap (o := 3) hP rfl); (have n0 := cell_heap (o := 0) hN rfl; have n1 := cell_heap (o := 1) hN rfl))))
  refine region_still (by kernel_rfl) (by kernel_rfl) ?_; intro W' hW hC; have z0 := (hC ⟨w.heap.size + 1, 0, none⟩).trans (n0); have z1 := (hC ⟨w.heap.size + 1, 1, none⟩).trans (n1); replace hW := Lib.hid hW; clear hC; (repeat still_step); refine wpStill_nil ?_; obtain rfl := hW.out; clear hW
  replace hP := heap_drew hP
  replace hK := Below.drew hK
  generalize w2.drew = wD at *
  clear p0 p1 p2 p3 n0 n1 hN
  (have p0 := cell_heap (o := 0) hP rfl; have p1 := cell_heap (o := 1) hP rfl; have p2 := cell_heap (o := 2) hP rfl; have p3 := cell_heap (o := 3) hP rfl)
  go_wp2_with (first
    | ((go_at_call 33; refine (h1.out _ (h.below hK)).mono ?_; rintro e w3 ⟨rfl, hb3⟩; replace hK := Below.next hK (Nat.le_refl _) hb3; replace hP := heap_old hb3 hP; clear hb3; clear p0 p1 p2 p3; (have p0 := cell_heap (o := 0) hP rfl; have p1 := cell_heap (o := 1) hP rfl; have p2 := cell_heap (o := 2) hP rfl; have p3 := cell_heap (o := 3) hP rfl)))
    | ((go_at_call 30; refine (h2.out _ (h.below hK)).mono ?_; rintro e w4 ⟨rfl, hb4⟩; replace hK := Below.next hK (Nat.le_refl _) hb4; have hK4 := hK.alloc hK.size (.cells #[.int .i64 lo, .int .i64 hi] 34); have hR := heap_new w4 (.cells #[.int .i64 lo, .int .i64 hi] 34) rfl; replace hP := heap_alloc (X := .cells #[.int .i64 lo, .int .i64 hi] 34) (heap_old hb4 hP); clear hb4; clear p0 p1 p2 p3; (have p0 := cell_heap (o := 0) hP rfl; have p1 := cell_heap (o := 1) hP rfl; have p2 := cell_heap (o := 2) hP rfl; have p3 := cell_heap (o := 3) hP rfl)))
    | ((go_at_call 35; refine (hv.out _).mono ?_; rintro e w5 ⟨rfl, hb5⟩; have hK5 := Below.next hK4 (Nat.le_refl _) hb5; replace hR := heap_old hb5 hR; have r0 := cell_heap (o := 0) hR rfl; have r1 := cell_heap (o := 1) hR rfl)))
  all_goals
    go_ret
    first | exact ⟨rfl, hK4⟩ | exact ⟨rfl, hK5⟩
set_option maxRecDepth 100000 in
set_option maxHeartbeats 4000000 in
theorem pathEncloses_good (v : Value) (l : List SN) (a b : Int × Int) (n t : Int) (w : World) (h : Seens w v l) (hn1 : -9223372036854775808 ≤ n) (hn2 : n ≤ 9223372036854775807) (hfb : fewB l = true) (hB : pfB l (n.tmod 3) a b = true) (hL : linE l (n.tmod 3) t = 0) : Calls Try.prog 8 #[v, .agg #[.int .i64 a.1, .int .i64 a.2, .int .i64 b.1, .int .i64 b.2], .agg #[.int .i64 n, .int .i64 t]] w fun e w' => e = .returned (.bool true) ∧ Below w.heap.size w w' := by
  have hf := Lib.hid (fun w' (h : Seens w' v l) => few_any v l w' h)
  have hax : IntKind.i64.wrap (n.tmod 3) = n.tmod 3 := kwrap_id (by have := Int.tmod_lt_of_pos n (show (0:Int) < 3 by omega); have := Int.lt_tmod_of_pos n (show (0:Int) < 3 by omega); omega) (by have := Int.tmod_lt_of_pos n (show (0:Int) < 3 by omega); omega)
  generalize hA : n.tmod 3 = ax at *
  have h1 := Lib.hid (fun w' (h : Seens w' v l) => ptfits_any v l ax a b w' h)
  have h2 := Lib.hid (fun w' (h : Seens w' v l) => lines_any v l ax t w' h)
  unfold pfV at h1
  unfold linV at h2
  rw [hfb] at hf
  have hE := (pfB_fit hB).1
  obtain ⟨⟨t1, t2⟩, ⟨y1, y2⟩, ⟨y3, y4⟩, g1, g2⟩ := encloses hB hL
  obtain ⟨_, ho, hd⟩ := pfE_parts hE
  obtain ⟨⟨q1, q2⟩, _, ⟨q3, q4⟩, _⟩ := ord_in ho
  have hv := Lib.hid (fun w => value_any a b t w (in_of ho) (by omega) (by omega))
  rw [hB, hE] at h1
  rw [hL] at h2
  clear hL hB hE ho
  generalize linLo l ax t = lo at *
  generalize linHi l ax t = hi at *
  generalize valN (ordA a b) (ordB a b) t = V at *
  have d1 : 0 < (ordB a b).1 - (ordA a b).1 := by omega
  have d2 : (ordB a b).1 - (ordA a b).1 ≤ 8000 := by omega
  clear hd q1 q2 q3 q4
  generalize (ordB a b).1 - (ordA a b).1 = D at *
  obtain ⟨m1, m2⟩ := mul_bd (A := 300000000000000) (B := 8000) (a := lo) (b := D) y1 y2 (by omega) d2
  obtain ⟨m3, m4⟩ := mul_bd (A := 300000000000000) (B := 8000) (a := hi) (b := D) y3 y4 (by omega) d2
  go_enter Try.func8, Try.ntmps8
  go_wp2_with (first
    | ((go_at_call 28; refine (awake33_any _).mono ?_; rintro e w1 ⟨rfl, hb1⟩; have hP := heap_old hb1 (heap_alloc (X := .cells #[.int .i64 n, .int .i64 t] 23) (heap_new w (.cells #[.int .i64 a.1, .int .i64 a.2, .int .i64 b.1, .int .i64 b.2] 24) rfl)); have hN := heap_old hb1 (heap_new (w.alloc (.cells #[.int .i64 a.1, .int .i64 a.2, .int .i64 b.1, .int .i64 b.2] 24)) (.cells #[.int .i64 n, .int .i64 t] 23) (b := w.heap.size + 1) (by simp)); have hK := Below.next2 (Below.refl w.heap.size w) (Nat.le_refl _) hb1; clear hb1; (have p0 := cell_heap (o := 0) hP rfl; have p1 := cell_heap (o := 1) hP rfl; have p2 := cell_heap (o := 2) hP rfl; have p3 := cell_heap (o := 3) hP rfl); (have n0 := cell_heap (o := 0) hN rfl; have n1 := cell_heap (o := 1) hN rfl)))
    | ((go_at_call 29; refine (hf.out _ (h.below hK)).mono ?_; rintro e w2 ⟨rfl, hb2⟩; replace hK := Below.next hK (Nat.le_refl _) hb2; replace hP := heap_old hb2 hP; replace hN := heap_old hb2 hN; clear hb2; clear p0 p1 p2 p3 n0 n1; (have p0 := cell_heap (o := 0) hP rfl; have p1 := cell_heap (o := 1) hP rfl; have p2 := cell_heap (o := 2) hP rfl; have p3 := cell_heap (o := 3) hP rfl); (have n0 := cell_heap (o := 0) hN rfl; have n1 := cell_heap (o := 1) hN rfl))))
  refine region_still (by kernel_rfl) (by kernel_rfl) ?_; intro W' hW hC; have z0 := (hC ⟨w.heap.size + 1, 0, none⟩).trans (n0); have z1 := (hC ⟨w.heap.size + 1, 1, none⟩).trans (n1); replace hW := Lib.hid hW; clear hC; (repeat still_step); refine wpStill_nil ?_; obtain rfl := hW.out; clear hW
  replace hP := heap_drew hP
  replace hK := Below.drew hK
  generalize w2.drew = wD at *
  clear p0 p1 p2 p3 n0 n1 hN
  (have p0 := cell_heap (o := 0) hP rfl; have p1 := cell_heap (o := 1) hP rfl; have p2 := cell_heap (o := 2) hP rfl; have p3 := cell_heap (o := 3) hP rfl)
  go_wp2_with (first
    | ((go_at_call 33; refine (h1.out _ (h.below hK)).mono ?_; rintro e w3 ⟨rfl, hb3⟩; replace hK := Below.next hK (Nat.le_refl _) hb3; replace hP := heap_old hb3 hP; clear hb3; clear p0 p1 p2 p3; (have p0 := cell_heap (o := 0) hP rfl; have p1 := cell_heap (o := 1) hP rfl; have p2 := cell_heap (o := 2) hP rfl; have p3 := cell_heap (o := 3) hP rfl)))
    | ((go_at_call 30; refine (h2.out _ (h.below hK)).mono ?_; rintro e w4 ⟨rfl, hb4⟩; replace hK := Below.next hK (Nat.le_refl _) hb4; have hK4 := hK.alloc hK.size (.cells #[.int .i64 lo, .int .i64 hi] 34); have hR := heap_new w4 (.cells #[.int .i64 lo, .int .i64 hi] 34) rfl; replace hP := heap_alloc (X := .cells #[.int .i64 lo, .int .i64 hi] 34) (heap_old hb4 hP); clear hb4; clear p0 p1 p2 p3; (have p0 := cell_heap (o := 0) hP rfl; have p1 := cell_heap (o := 1) hP rfl; have p2 := cell_heap (o := 2) hP rfl; have p3 := cell_heap (o := 3) hP rfl)))
    | ((go_at_call 35; refine (hv.out _).mono ?_; rintro e w5 ⟨rfl, hb5⟩; have hK5 := Below.next hK4 (Nat.le_refl _) hb5; replace hR := heap_old hb5 hR; have r0 := cell_heap (o := 0) hR rfl; have r1 := cell_heap (o := 1) hR rfl)))
  all_goals
    go_ret
    first | exact ⟨rfl, hK4⟩ | exact ⟨rfl, hK5⟩
theorem pathEncloses_walk (v : Value) (l : List SN) (a b : Int × Int) (n t : Int) (w : World) (h : Seens w v l) (hn1 : -9223372036854775808 ≤ n) (hn2 : n ≤ 9223372036854775807) : Calls Try.prog 8 #[v, .agg #[.int .i64 a.1, .int .i64 a.2, .int .i64 b.1, .int .i64 b.2], .agg #[.int .i64 n, .int .i64 t]] w fun e w' => e = .returned (.bool true) ∧ Below w.heap.size w w' := by
  cases hfb : fewB l with
  | false => exact pathEncloses_few v l a b n t w h hn1 hn2 hfb
  | true =>
    cases hB : pfB l (n.tmod 3) a b with
    | false => exact pathEncloses_bad v l a b n t w h hn1 hn2 hfb hB
    | true =>
      by_cases hL : linE l (n.tmod 3) t = 0
      · exact pathEncloses_good v l a b n t w h hn1 hn2 hfb hB hL
      · exact pathEncloses_err v l a b n t w h hn1 hn2 hfb hB hL
end Go.Proofs.Ytmdledlbkdcmnaa
