/-
  Contracts of interval.Over for the scale of heights, and of path.fallen, ours and the reference's.
  Conditions: none.
-/
import Derived.Test.YtmdledlbkdcmnaaLines
import Derived.Test.YtmdledlbkdcmnaaInterval
namespace Go.Proofs.Ytmdledlbkdcmnaa
open Go.RowKit
/-- A range of heights taken down. -/
def ovV (lo hi : Int) : Value := if lo ≤ hi then .tuple #[.agg #[.int .i64 (lo / 80000), .int .i64 (-(-hi / 80000))], .int .i64 0] else .tuple #[.agg #[.int .i64 0, .int .i64 0], .int .i64 1]
theorem valid_small {lo hi : Int} (h1 : -400000000000000 ≤ lo) (h2 : lo ≤ 400000000000000) (h3 : -400000000000000 ≤ hi) (h4 : hi ≤ 400000000000000) : validB lo hi = decide (lo ≤ hi) := by
  unfold validB endB
  rw [decide_eq_true (show -4611686018427387904 ≤ lo by omega), decide_eq_true (show lo ≤ 4611686018427387904 by omega), decide_eq_true (show -4611686018427387904 ≤ hi by omega), decide_eq_true (show hi ≤ 4611686018427387904 by omega)]
  simp
set_option maxRecDepth 100000 in
set_option maxHeartbeats 4000000 in
theorem over_any (lo hi : Int) (w : World) (h1 : -400000000000000 ≤ lo) (h2 : lo ≤ 400000000000000) (h3 : -400000000000000 ≤ hi) (h4 : hi ≤ 400000000000000) :
    Calls Try.prog 101 #[.agg #[.int .i64 lo, .int .i64 hi], .int .i64 80000] w fun e w' => e = .returned (ovV lo hi) ∧ Below w.heap.size w w' := by
  have hv := fun w => valid_any lo hi w
  rw [valid_small h1 h2 h3 h4] at hv
  by_cases h : lo ≤ hi
  · have e1 : ovV lo hi = .tuple #[.agg #[.int .i64 (lo / 80000), .int .i64 (-(-hi / 80000))], .int .i64 0] := by unfold ovV; rw [if_pos h]
    rw [e1]
    rw [decide_eq_true h] at hv
    have hV := Lib.hid hv
    have hf := Lib.hid (fun w => floordiv_any lo 80000 (by omega) (by omega) (by omega) (by omega) w)
    have hc := Lib.hid (fun w => ceildiv_any hi 80000 (by omega) (by omega) (by omega) (by omega) w)
    clear hv e1
    generalize lo / 80000 = A at *
    generalize -(-hi / 80000) = B at *
    go_enter Try.func101, Try.ntmps101
    have hP := heap_alloc (X := .cells #[.int .i64 0, .int .i64 0] 34) (heap_new w (.cells #[.int .i64 lo, .int .i64 hi] 34) rfl)
    have hR := heap_new (w.alloc (.cells #[.int .i64 lo, .int .i64 hi] 34)) (.cells #[.int .i64 0, .int .i64 0] 34) (b := w.heap.size + 1) (by simp)
    go_wp2_with (first
      | (go_at_call 104; refine (hV.out _).mono ?_; rintro e w1 ⟨rfl, hb1⟩; have hB : Below w.heap.size w w1 := Below.trans (by repeat (first | with_reducible exact Below.refl _ _ | with_reducible assumption | with_reducible refine Below.drew ?_ | with_reducible refine Below.setCell ?_ (by first | omega | (simp; omega) | simp) _ | with_reducible refine Below.alloc ?_ (by first | omega | (simp; omega) | simp) _ | with_reducible refine Below.trans ?_ (Below.mono (by with_reducible assumption) (by first | omega | (simp; omega) | simp)))) (hb1.mono (by simp; omega)); replace hP := heap_old hb1 hP; replace hR := heap_old hb1 hR; have p0 := cell_heap (o := 0) hP rfl; have p1 := cell_heap (o := 1) hP rfl)
      | (go_at_call 120; refine (hf.out _).mono ?_; rintro e w2 ⟨rfl, hb2⟩; replace hB := Below.next hB (Nat.le_refl _) hb2; replace hP := heap_old hb2 hP; replace hR := heap_old hb2 hR; clear p0 p1; have p0 := cell_heap (o := 0) hP rfl; have p1 := cell_heap (o := 1) hP rfl)
      | (go_at_call 121; refine (hc.out _).mono ?_; rintro e w3 ⟨rfl, hb3⟩; replace hB := Below.next hB (Nat.le_refl _) hb3; replace hP := heap_old hb3 hP; replace hR := heap_old hb3 hR; clear p0 p1; have p0 := cell_heap (o := 0) hP rfl; have p1 := cell_heap (o := 1) hP rfl; have r0 := cell_heap (o := 0) hR rfl; have r1 := cell_heap (o := 1) hR rfl; have z0 := frozen_heap (o := 0) hR; have z1 := frozen_heap (o := 1) hR))
    have hE := heap_set (o := 1) (v := .int .i64 B) (heap_set (o := 0) (v := .int .i64 A) hR)
    simp only [List.setIfInBounds_toArray, List.set_cons_succ, List.set_cons_zero] at hE
    have k0 := cell_heap (o := 0) hE rfl
    have k1 := cell_heap (o := 1) hE rfl
    refine bodyPost_ret (v := .tuple #[.agg #[.int .i64 A, .int .i64 B], .int .i64 0]) (by simp only [results, Try.results101]; go_simp) rfl ⟨rfl, (by repeat (first | with_reducible exact Below.refl _ _ | with_reducible assumption | with_reducible refine Below.drew ?_ | with_reducible refine Below.setCell ?_ (by first | omega | (simp; omega) | simp) _ | with_reducible refine Below.alloc ?_ (by first | omega | (simp; omega) | simp) _ | with_reducible refine Below.trans ?_ (Below.mono (by with_reducible assumption) (by first | omega | (simp; omega) | simp))))⟩
  · have e1 : ovV lo hi = .tuple #[.agg #[.int .i64 0, .int .i64 0], .int .i64 1] := by unfold ovV; rw [if_neg h]
    rw [e1]
    rw [decide_eq_false h] at hv
    have hV := Lib.hid hv
    clear hv e1
    go_enter Try.func101, Try.ntmps101
    have hR := heap_new (w.alloc (.cells #[.int .i64 lo, .int .i64 hi] 34)) (.cells #[.int .i64 0, .int .i64 0] 34) (b := w.heap.size + 1) (by simp)
    go_wp2_with (go_at_call 104; refine (hV.out _).mono ?_; rintro e w1 ⟨rfl, hb1⟩; have hB : Below w.heap.size w w1 := Below.trans (by repeat (first | with_reducible exact Below.refl _ _ | with_reducible assumption | with_reducible refine Below.drew ?_ | with_reducible refine Below.setCell ?_ (by first | omega | (simp; omega) | simp) _ | with_reducible refine Below.alloc ?_ (by first | omega | (simp; omega) | simp) _ | with_reducible refine Below.trans ?_ (Below.mono (by with_reducible assumption) (by first | omega | (simp; omega) | simp)))) (hb1.mono (by simp; omega)); replace hR := heap_old hb1 hR; have r0 := cell_heap (o := 0) hR rfl; have r1 := cell_heap (o := 1) hR rfl; have z0 := frozen_heap (o := 0) hR; have z1 := frozen_heap (o := 1) hR)
    have hE := heap_set (o := 1) (v := .int .i64 0) (heap_set (o := 0) (v := .int .i64 0) hR)
    simp only [List.setIfInBounds_toArray, List.set_cons_succ, List.set_cons_zero] at hE
    have k0 := cell_heap (o := 0) hE rfl
    have k1 := cell_heap (o := 1) hE rfl
    refine bodyPost_ret (v := .tuple #[.agg #[.int .i64 0, .int .i64 0], .int .i64 1]) (by simp only [results, Try.results101]; go_simp) rfl ⟨rfl, (by repeat (first | with_reducible exact Below.refl _ _ | with_reducible assumption | with_reducible refine Below.drew ?_ | with_reducible refine Below.setCell ?_ (by first | omega | (simp; omega) | simp) _ | with_reducible refine Below.alloc ?_ (by first | omega | (simp; omega) | simp) _ | with_reducible refine Below.trans ?_ (Below.mono (by with_reducible assumption) (by first | omega | (simp; omega) | simp))))⟩
/-- The range of heights. -/
def falV (lo hi e l : Int) : Value := .agg #[.int .i64 (fallLo lo hi e l), .int .i64 (fallHi lo hi e l)]
theorem grav5 {t : Int} (h1 : -10 ≤ t) (h2 : t ≤ 5000) : 0 ≤ 981 * t * t ∧ 981 * t * t ≤ 24525000000 := by
  have q := mul_bd (A := 5000) (B := 5000) (a := t) (b := t) (by omega) (by omega) (by omega) (by omega)
  have q0 := sq_nonneg t
  have e : 981 * t * t = 981 * (t * t) := by grind
  omega
theorem ovV_fal (lo hi e l : Int) : ∃ k : Int, ovV (lo - 981 * l * l) (hi - 981 * e * e) = .tuple #[falV lo hi e l, .int .i64 k] := by
  unfold ovV falV fallLo fallHi
  split
  · exact ⟨0, rfl⟩
  · exact ⟨1, rfl⟩
set_option maxRecDepth 100000 in
set_option maxHeartbeats 4000000 in
theorem fallen_any (lo hi e l : Int) (w : World) (h1 : -300000000000000 ≤ lo) (h2 : lo ≤ 300000000000000) (h3 : -300000000000000 ≤ hi) (h4 : hi ≤ 300000000000000) (e1 : -10 ≤ e) (e2 : e ≤ 5000) (l1 : -10 ≤ l) (l2 : l ≤ 5000) :
    Calls Try.prog 58 #[.agg #[.int .i64 lo, .int .i64 hi], .int .i64 e, .int .i64 l] w fun x w' => x = .returned (falV lo hi e l) ∧ Below w.heap.size w w' := by
  obtain ⟨a1, a2⟩ := grav5 e1 e2
  obtain ⟨b1, b2⟩ := grav5 l1 l2
  have ho := fun w => over_any (lo - 981 * l * l) (hi - 981 * e * e) w (by omega) (by omega) (by omega) (by omega)
  obtain ⟨k, hk⟩ := ovV_fal lo hi e l
  rw [hk] at ho
  have hO := Lib.hid ho
  clear ho hk
  unfold falV at *
  generalize fallLo lo hi e l = A at *
  generalize fallHi lo hi e l = B at *
  go_enter Try.func58, Try.ntmps58
  go_wp2_with (go_at_call 101; refine (hO.out _).mono ?_; rintro x w1 ⟨rfl, hb1⟩; have hB : Below w.heap.size w w1 := Below.trans (by repeat (first | with_reducible exact Below.refl _ _ | with_reducible assumption | with_reducible refine Below.drew ?_ | with_reducible refine Below.setCell ?_ (by first | omega | (simp; omega) | simp) _ | with_reducible refine Below.alloc ?_ (by first | omega | (simp; omega) | simp) _ | with_reducible refine Below.trans ?_ (Below.mono (by with_reducible assumption) (by first | omega | (simp; omega) | simp)))) (hb1.mono (by simp; omega)); have hR := heap_alloc (X := .cells #[.int .i64 A, .int .i64 B] 34) (heap_old hb1 (heap_new (w.alloc (.cells #[.int .i64 (lo - 981 * l * l), .int .i64 (hi - 981 * e * e)] 34)) (.cells #[.int .i64 0, .int .i64 0] 34) (b := w.heap.size + 1) (by simp))); have hsz := hb1.size; simp at hsz; have r0 := cell_heap (o := 0) hR rfl; have r1 := cell_heap (o := 1) hR rfl; have z0 := frozen_heap (o := 0) hR; have z1 := frozen_heap (o := 1) hR)
  have hE := heap_set (o := 1) (v := .int .i64 B) (heap_set (o := 0) (v := .int .i64 A) hR)
  simp only [List.setIfInBounds_toArray, List.set_cons_succ, List.set_cons_zero] at hE
  have k0 := cell_heap (o := 0) hE rfl
  have k1 := cell_heap (o := 1) hE rfl
  refine bodyPost_ret (v := .agg #[.int .i64 A, .int .i64 B]) (by simp only [results, Try.results58]; go_simp) rfl ⟨rfl, (by repeat (first | with_reducible exact Below.refl _ _ | with_reducible assumption | with_reducible refine Below.drew ?_ | with_reducible refine Below.setCell ?_ (by first | omega | (simp; omega) | simp) _ | with_reducible refine Below.alloc ?_ (by first | omega | (simp; omega) | simp) _ | with_reducible refine Below.trans ?_ (Below.mono (by with_reducible assumption) (by first | omega | (simp; omega) | simp))))⟩
end Go.Proofs.Ytmdledlbkdcmnaa
