/-
  Contracts and laws, merged: TopCross2 TopCross3.
  Conditions: none.
-/
import Derived.Test.YtmdledlbkdcmnaaM24
set_option linter.unusedSimpArgs false
set_option linter.unusedVariables false
/-
  Contract of the statement's crossing.
  Conditions: none.
-/
namespace Go.Proofs.Ytmdledlbkdcmnaa
open Go.RowKit
set_option maxRecDepth 100000 in
@[go_sem] theorem run_index0 (a b c d : Value) (w : World) : (Instr.index 24 (.agg #[a, b, c, d]) (.int .i64 0)).run Try.prog w = .ok (.agg #[a, b]) w := by rfl
set_option maxRecDepth 100000 in
@[go_sem] theorem run_index1 (a b c d : Value) (w : World) : (Instr.index 24 (.agg #[a, b, c, d]) (.int .i64 1)).run Try.prog w = .ok (.agg #[c, d]) w := by rfl
set_option maxRecDepth 100000 in
set_option maxHeartbeats 4000000 in
theorem crossing_1 (p : TR) (h1 : p.1.2 < -33554432 ∨ 33554432 < p.1.2) (w : World) : Calls Try.prog 24 #[(.agg #[.int .i64 p.1.1, .int .i64 p.1.2, .int .i64 p.2.1.1, .int .i64 p.2.1.2, .int .i64 p.2.2.1.1, .int .i64 p.2.2.1.2, .int .i64 p.2.2.2.1.1, .int .i64 p.2.2.2.1.2, .int .i64 p.2.2.2.2.1.1, .int .i64 p.2.2.2.2.1.2, .int .i64 p.2.2.2.2.2.1, .int .i64 p.2.2.2.2.2.2])] w fun e w' => e = .returned (.tuple #[.int .i64 0, .int .i64 0, .bool false]) ∧ Below w.heap.size w w' := by
  rcases h1 with h1 | h1
  all_goals
    go_enter Try.func24, Try.ntmps24
    go_wp2_with fail
    refine wp_loop_rounds 3 ?_
    rw [rounds_succ]
    go_wp2_with fail
    refine wp_loop_rounds 3 ?_
    rw [rounds_succ]
    go_wp2_with fail
    refine bodyPost_ret (v := .tuple #[.int .i64 0, .int .i64 0, .bool false]) (by simp only [results, Try.results24]; go_simp) rfl ⟨rfl, (by repeat (first | with_reducible exact Below.refl _ _ | with_reducible assumption | with_reducible refine Below.drew ?_ | with_reducible refine Below.setCell ?_ (by first | omega | (simp; omega) | simp) _ | with_reducible refine Below.alloc ?_ (by first | omega | (simp; omega) | simp) _ | with_reducible refine Below.trans ?_ (Below.mono (by with_reducible assumption) (by first | omega | (simp; omega) | simp))))⟩
set_option maxRecDepth 100000 in
set_option maxHeartbeats 4000000 in
theorem crossing_2 (p : TR) (g1 : -33554432 ≤ p.1.2) (g2 : p.1.2 ≤ 33554432) (h1 : p.2.1.2 < -33554432 ∨ 33554432 < p.2.1.2) (w : World) : Calls Try.prog 24 #[(.agg #[.int .i64 p.1.1, .int .i64 p.1.2, .int .i64 p.2.1.1, .int .i64 p.2.1.2, .int .i64 p.2.2.1.1, .int .i64 p.2.2.1.2, .int .i64 p.2.2.2.1.1, .int .i64 p.2.2.2.1.2, .int .i64 p.2.2.2.2.1.1, .int .i64 p.2.2.2.2.1.2, .int .i64 p.2.2.2.2.2.1, .int .i64 p.2.2.2.2.2.2])] w fun e w' => e = .returned (.tuple #[.int .i64 0, .int .i64 0, .bool false]) ∧ Below w.heap.size w w' := by
  rcases h1 with h1 | h1
  all_goals
    go_enter Try.func24, Try.ntmps24
    go_wp2_with fail
    refine wp_loop_rounds 3 ?_
    rw [rounds_succ]
    go_wp2_with fail
    refine wp_loop_rounds 3 ?_
    rw [rounds_succ]
    go_wp2_with fail
    rw [rounds_succ]
    go_wp2_with fail
    refine bodyPost_ret (v := .tuple #[.int .i64 0, .int .i64 0, .bool false]) (by simp only [results, Try.results24]; go_simp) rfl ⟨rfl, (by repeat (first | with_reducible exact Below.refl _ _ | with_reducible assumption | with_reducible refine Below.drew ?_ | with_reducible refine Below.setCell ?_ (by first | omega | (simp; omega) | simp) _ | with_reducible refine Below.alloc ?_ (by first | omega | (simp; omega) | simp) _ | with_reducible refine Below.trans ?_ (Below.mono (by with_reducible assumption) (by first | omega | (simp; omega) | simp))))⟩
set_option maxRecDepth 100000 in
set_option maxHeartbeats 4000000 in
theorem crossing_3 (p : TR) (g1 : -33554432 ≤ p.1.2) (k1 : p.1.2 ≤ 33554432) (g2 : -33554432 ≤ p.2.1.2) (k2 : p.2.1.2 ≤ 33554432) (h1 : p.2.2.1.2 < -33554432 ∨ 33554432 < p.2.2.1.2) (w : World) : Calls Try.prog 24 #[(.agg #[.int .i64 p.1.1, .int .i64 p.1.2, .int .i64 p.2.1.1, .int .i64 p.2.1.2, .int .i64 p.2.2.1.1, .int .i64 p.2.2.1.2, .int .i64 p.2.2.2.1.1, .int .i64 p.2.2.2.1.2, .int .i64 p.2.2.2.2.1.1, .int .i64 p.2.2.2.2.1.2, .int .i64 p.2.2.2.2.2.1, .int .i64 p.2.2.2.2.2.2])] w fun e w' => e = .returned (.tuple #[.int .i64 0, .int .i64 0, .bool false]) ∧ Below w.heap.size w w' := by
  rcases h1 with h1 | h1
  all_goals
    go_enter Try.func24, Try.ntmps24
    go_wp2_with fail
    refine wp_loop_rounds 3 ?_
    rw [rounds_succ]
    go_wp2_with fail
    refine wp_loop_rounds 3 ?_
    rw [rounds_succ]
    go_wp2_with fail
    rw [rounds_succ]
    go_wp2_with fail
    rw [rounds_succ]
    go_wp2_with fail
    rw [rounds_succ]
    go_wp2_with fail
    refine wp_loop_rounds 3 ?_
    rw [rounds_succ]
    go_wp2_with fail
    refine bodyPost_ret (v := .tuple #[.int .i64 0, .int .i64 0, .bool false]) (by simp only [results, Try.results24]; go_simp) rfl ⟨rfl, (by repeat (first | with_reducible exact Below.refl _ _ | with_reducible assumption | with_reducible refine Below.drew ?_ | with_reducible refine Below.setCell ?_ (by first | omega | (simp; omega) | simp) _ | with_reducible refine Below.alloc ?_ (by first | omega | (simp; omega) | simp) _ | with_reducible refine Below.trans ?_ (Below.mono (by with_reducible assumption) (by first | omega | (simp; omega) | simp))))⟩
set_option maxRecDepth 100000 in
set_option maxHeartbeats 4000000 in
theorem crossing_4 (p : TR) (g1 : -33554432 ≤ p.1.2) (k1 : p.1.2 ≤ 33554432) (g2 : -33554432 ≤ p.2.1.2) (k2 : p.2.1.2 ≤ 33554432) (g3 : -33554432 ≤ p.2.2.1.2) (k3 : p.2.2.1.2 ≤ 33554432) (h1 : p.2.2.2.1.2 < -33554432 ∨ 33554432 < p.2.2.2.1.2) (w : World) : Calls Try.prog 24 #[(.agg #[.int .i64 p.1.1, .int .i64 p.1.2, .int .i64 p.2.1.1, .int .i64 p.2.1.2, .int .i64 p.2.2.1.1, .int .i64 p.2.2.1.2, .int .i64 p.2.2.2.1.1, .int .i64 p.2.2.2.1.2, .int .i64 p.2.2.2.2.1.1, .int .i64 p.2.2.2.2.1.2, .int .i64 p.2.2.2.2.2.1, .int .i64 p.2.2.2.2.2.2])] w fun e w' => e = .returned (.tuple #[.int .i64 0, .int .i64 0, .bool false]) ∧ Below w.heap.size w w' := by
  rcases h1 with h1 | h1
  all_goals
    go_enter Try.func24, Try.ntmps24
    go_wp2_with fail
    refine wp_loop_rounds 3 ?_
    rw [rounds_succ]
    go_wp2_with fail
    refine wp_loop_rounds 3 ?_
    rw [rounds_succ]
    go_wp2_with fail
    rw [rounds_succ]
    go_wp2_with fail
    rw [rounds_succ]
    go_wp2_with fail
    rw [rounds_succ]
    go_wp2_with fail
    refine wp_loop_rounds 3 ?_
    rw [rounds_succ]
    go_wp2_with fail
    rw [rounds_succ]
    go_wp2_with fail
    refine bodyPost_ret (v := .tuple #[.int .i64 0, .int .i64 0, .bool false]) (by simp only [results, Try.results24]; go_simp) rfl ⟨rfl, (by repeat (first | with_reducible exact Below.refl _ _ | with_reducible assumption | with_reducible refine Below.drew ?_ | with_reducible refine Below.setCell ?_ (by first | omega | (simp; omega) | simp) _ | with_reducible refine Below.alloc ?_ (by first | omega | (simp; omega) | simp) _ | with_reducible refine Below.trans ?_ (Below.mono (by with_reducible assumption) (by first | omega | (simp; omega) | simp))))⟩
end Go.Proofs.Ytmdledlbkdcmnaa

/-
  Contract of the statement's crossing.
  Conditions: none.
-/
namespace Go.Proofs.Ytmdledlbkdcmnaa
open Go.RowKit
theorem ret_nb {n d : Int} {a b : Bool} (h : a = b) : Ending.returned (.tuple #[.int .i64 n, .int .i64 d, .bool a]) = .returned (.tuple #[.int .i64 n, .int .i64 d, .bool b]) := by rw [h]
set_option maxRecDepth 100000 in
set_option maxHeartbeats 4000000 in
theorem crossing_in (p : TR) (g1 : -33554432 ≤ p.1.2) (k1 : p.1.2 ≤ 33554432) (g2 : -33554432 ≤ p.2.1.2) (k2 : p.2.1.2 ≤ 33554432) (g3 : -33554432 ≤ p.2.2.1.2) (k3 : p.2.2.1.2 ≤ 33554432) (g4 : -33554432 ≤ p.2.2.2.1.2) (k4 : p.2.2.2.1.2 ≤ 33554432) (N1 N2 N : Int) (w1 : wrap64 ((ordA p.1 p.2.1).2 * (ordB p.1 p.2.1).1) = N1) (w2 : wrap64 ((ordB p.1 p.2.1).2 * (ordA p.1 p.2.1).1) = N2) (w3 : wrap64 (N1 - N2) = N) (w : World) : Calls Try.prog 24 #[(.agg #[.int .i64 p.1.1, .int .i64 p.1.2, .int .i64 p.2.1.1, .int .i64 p.2.1.2, .int .i64 p.2.2.1.1, .int .i64 p.2.2.1.2, .int .i64 p.2.2.2.1.1, .int .i64 p.2.2.2.1.2, .int .i64 p.2.2.2.2.1.1, .int .i64 p.2.2.2.2.1.2, .int .i64 p.2.2.2.2.2.1, .int .i64 p.2.2.2.2.2.2])] w fun e w' => e = .returned (.tuple #[.int .i64 N, .int .i64 ((ordA p.1 p.2.1).2 - (ordB p.1 p.2.1).2), .bool (decide (0 < (ordA p.1 p.2.1).2 - (ordB p.1 p.2.1).2) && (decide (0 ≤ N) && decide (N ≤ 8000 * ((ordA p.1 p.2.1).2 - (ordB p.1 p.2.1).2))))]) ∧ Below w.heap.size w w' := by
  have hor := Lib.hid (fun w => ordered_any p.1 p.2.1 w)
  obtain ⟨a1, a2, b1, b2⟩ : -33554432 ≤ (ordA p.1 p.2.1).2 ∧ (ordA p.1 p.2.1).2 ≤ 33554432 ∧ -33554432 ≤ (ordB p.1 p.2.1).2 ∧ (ordB p.1 p.2.1).2 ≤ 33554432 := by
    rcases ord_split p.1 p.2.1 with ⟨_, e1, e2⟩ | ⟨_, e1, e2⟩
    · rw [e1, e2]; exact ⟨g2, k2, g1, k1⟩
    · rw [e1, e2]; exact ⟨g1, k1, g2, k2⟩
  generalize ordA p.1 p.2.1 = A at *
  generalize ordB p.1 p.2.1 = B at *
  go_enter Try.func24, Try.ntmps24
  go_wp2_with fail
  refine wp_loop_rounds 3 ?_
  rw [rounds_succ]
  go_wp2_with fail
  refine wp_loop_rounds 3 ?_
  rw [rounds_succ]
  go_wp2_with fail
  rw [rounds_succ]
  go_wp2_with fail
  rw [rounds_succ]
  go_wp2_with fail
  rw [rounds_succ]
  go_wp2_with fail
  refine wp_loop_rounds 3 ?_
  rw [rounds_succ]
  go_wp2_with fail
  rw [rounds_succ]
  go_wp2_with fail
  rw [rounds_succ]
  go_wp2_with fail
  rw [rounds_succ]
  go_wp2_with (go_at_call 59; refine (hor.out _).mono ?_; rintro e w1 ⟨rfl, hb1⟩; have hK : Below w.heap.size w w1 := Below.trans (by repeat (first | with_reducible exact Below.refl _ _ | with_reducible assumption | with_reducible refine Below.drew ?_ | with_reducible refine Below.setCell ?_ (by first | omega | (simp; omega) | simp) _ | with_reducible refine Below.alloc ?_ (by first | omega | (simp; omega) | simp) _ | with_reducible refine Below.trans ?_ (Below.mono (by with_reducible assumption) (by first | omega | (simp; omega) | simp)))) (hb1.mono (by simp; omega)); clear hb1)
  all_goals
    have hKK := (hK.alloc hK.size (.cells #[.int .i64 A.1, .int .i64 A.2] 23)).alloc (by have := hK.size; simp; omega) (.cells #[.int .i64 B.1, .int .i64 B.2] 23)
    first
    | refine bodyPost_ret (v := .tuple #[.int .i64 N, .int .i64 (A.2 - B.2), .bool false]) (by first | ((simp only [results, Try.results24]; go_simp); done) | fail "no") rfl ⟨ret_nb ?_, hKK⟩
    | refine bodyPost_ret (v := .tuple #[.int .i64 N, .int .i64 (A.2 - B.2), .bool (decide (N ≤ 8000 * (A.2 - B.2)))]) (by first | ((simp only [results, Try.results24]; go_simp); done) | fail "no") rfl ⟨ret_nb ?_, hKK⟩
    | refine bodyPost_ret (v := .tuple #[.int .i64 N, .int .i64 (A.2 - B.2), .bool true]) (by first | ((simp only [results, Try.results24]; go_simp); done) | fail "no") rfl ⟨ret_nb ?_, hKK⟩
    clear hKK hK hor
    grind
end Go.Proofs.Ytmdledlbkdcmnaa
