/-
  Laws of the reference's wide sums.
  Conditions: none.
-/
import Derived.Test.YtcppgigndpepnaaRefWide
namespace Go.Proofs.Ytcppgigndpepnaa
open Go.RowKit
theorem ret_wide {a b c d : Int} (h1 : a = c) (h2 : b = d) : Ending.returned (.tuple #[.agg #[.int .i64 a, .int .u64 b], .bool true]) = .returned (.tuple #[.agg #[.int .i64 c, .int .u64 d], .bool true]) := by rw [h1, h2]
theorem radd_any (x y : Int) (hx : -170141183460469231731687303715884105728 ≤ x) (hx2 : x < 170141183460469231731687303715884105728) (hy : -170141183460469231731687303715884105728 ≤ y) (hy2 : y < 170141183460469231731687303715884105728) (w : World) :
    Calls Try.prog 77 #[.agg #[.int .i64 (x / 18446744073709551616), .int .u64 (x % 18446744073709551616)], .agg #[.int .i64 (y / 18446744073709551616), .int .u64 (y % 18446744073709551616)]] w fun e w' => e = .returned (if -170141183460469231731687303715884105728 ≤ x + y ∧ x + y < 170141183460469231731687303715884105728 then .tuple #[.agg #[.int .i64 ((x + y) / 18446744073709551616), .int .u64 ((x + y) % 18446744073709551616)], .bool true] else .tuple #[.agg #[.int .i64 0, .int .u64 0], .bool false]) ∧ Below w.heap.size w w' := by
  have hw : ∀ z, wrap64 z = (z + 9223372036854775808) % 18446744073709551616 - 9223372036854775808 := fun z => by unfold wrap64; omega
  by_cases hc : (x % 18446744073709551616 + y % 18446744073709551616) % 18446744073709551616 < x % 18446744073709551616
  · refine (radd_c (x / 18446744073709551616) (x % 18446744073709551616) (y / 18446744073709551616) (y % 18446744073709551616) _ _ _ _ _ _ (wrap_u64 _) (wrap_u64 _) (wrap_u64 _) (wrap_u64 _) (wrap_u64 _) (hw _) hc w).mono ?_
    rintro e w' ⟨rfl, hb⟩
    refine ⟨?_, hb⟩
    by_cases h : -170141183460469231731687303715884105728 ≤ x + y ∧ x + y < 170141183460469231731687303715884105728
    · rw [if_pos h, if_neg (by omega)]
      exact ret_wide (by omega) (by omega)
    · rw [if_neg h, if_pos (by omega)]
  · refine (radd_n (x / 18446744073709551616) (x % 18446744073709551616) (y / 18446744073709551616) (y % 18446744073709551616) _ _ _ _ _ (wrap_u64 _) (wrap_u64 _) (wrap_u64 _) (wrap_u64 _) (hw _) hc w).mono ?_
    rintro e w' ⟨rfl, hb⟩
    refine ⟨?_, hb⟩
    by_cases h : -170141183460469231731687303715884105728 ≤ x + y ∧ x + y < 170141183460469231731687303715884105728
    · rw [if_pos h, if_neg (by omega)]
      exact ret_wide (by omega) (by omega)
    · rw [if_neg h, if_pos (by omega)]
theorem rsub_ok (x y : Int) (hx : -170141183460469231731687303715884105728 ≤ x) (hx2 : x < 170141183460469231731687303715884105728) (hy : -170141183460469231731687303715884105728 ≤ y) (hy2 : y < 170141183460469231731687303715884105728) (h1 : -170141183460469231731687303715884105728 ≤ x - y) (h2 : x - y < 170141183460469231731687303715884105728) (w : World) :
    Calls Try.prog 90 #[.agg #[.int .i64 (x / 18446744073709551616), .int .u64 (x % 18446744073709551616)], .agg #[.int .i64 (y / 18446744073709551616), .int .u64 (y % 18446744073709551616)]] w fun e w' => e = .returned (.tuple #[.agg #[.int .i64 ((x - y) / 18446744073709551616), .int .u64 ((x - y) % 18446744073709551616)], .bool true]) ∧ Below w.heap.size w w' := by
  have hw : ∀ z, wrap64 z = (z + 9223372036854775808) % 18446744073709551616 - 9223372036854775808 := fun z => by unfold wrap64; omega
  by_cases hc : x % 18446744073709551616 < y % 18446744073709551616
  · refine (rsub_c (x / 18446744073709551616) (x % 18446744073709551616) (y / 18446744073709551616) (y % 18446744073709551616) _ _ _ _ _ _ (wrap_u64 _) (wrap_u64 _) (wrap_u64 _) (wrap_u64 _) (wrap_u64 _) (hw _) hc w).mono ?_
    rintro e w' ⟨rfl, hb⟩
    refine ⟨?_, hb⟩
    rw [if_neg (by omega)]
    exact ret_wide (by omega) (by omega)
  · refine (rsub_n (x / 18446744073709551616) (x % 18446744073709551616) (y / 18446744073709551616) (y % 18446744073709551616) _ _ _ _ _ (wrap_u64 _) (wrap_u64 _) (wrap_u64 _) (wrap_u64 _) (hw _) hc w).mono ?_
    rintro e w' ⟨rfl, hb⟩
    refine ⟨?_, hb⟩
    rw [if_neg (by omega)]
    exact ret_wide (by omega) (by omega)
set_option maxRecDepth 100000 in
set_option maxHeartbeats 2000000 in
theorem rneg_ok (x : Int) (h1 : -170141183460469231731687303715884105728 < x) (h2 : x < 170141183460469231731687303715884105728) (w : World) : Calls Try.prog 89 #[.agg #[.int .i64 (x / 18446744073709551616), .int .u64 (x % 18446744073709551616)]] w fun e w' => e = .returned (.tuple #[.agg #[.int .i64 (-x / 18446744073709551616), .int .u64 (-x % 18446744073709551616)], .bool true]) ∧ Below w.heap.size w w' := by
  have h := rsub_ok 0 x (by omega) (by omega) (by omega) h2 (by omega) (by omega)
  rw [show (0 : Int) / 18446744073709551616 = 0 by decide, show (0 : Int) % 18446744073709551616 = 0 by decide, Int.zero_sub] at h
  have H := Lib.hid h
  clear h
  generalize -x / 18446744073709551616 = n0 at *
  generalize -x % 18446744073709551616 = n1 at *
  generalize x / 18446744073709551616 = x0 at *
  generalize x % 18446744073709551616 = x1 at *
  go_enter Try.func89, Try.ntmps89
  go_wp2_with (go_at_call 90; refine (H.out _).mono ?_; rintro e w1 ⟨rfl, hb1⟩; have hR := heap_old hb1 (heap_new (w.alloc (.cells #[.int .i64 x0, .int .u64 x1] 65)) (.cells #[.int .i64 0, .int .u64 0] 65) (b := w.heap.size + 1) (by simp)); have hK := Below.next2 (Below.refl w.heap.size w) (Nat.le_refl _) hb1; have r0 := cell_heap (o := 0) hR rfl; have r1 := cell_heap (o := 1) hR rfl; have f0 := frozen_heap (o := 0) hR; have f1 := frozen_heap (o := 1) hR)
  refine bodyPost_ret (v := .tuple #[.agg #[.int .i64 n0, .int .u64 n1], .bool true]) (by simp only [results, Try.results89]; go_simp) rfl ⟨rfl, (by repeat (first | with_reducible exact Below.refl _ _ | with_reducible assumption | with_reducible refine Below.drew ?_ | with_reducible refine Below.setCell ?_ (by first | omega | (simp; omega) | simp) _ | with_reducible refine Below.alloc ?_ (by first | omega | (simp; omega) | simp) _ | with_reducible refine Below.trans ?_ (Below.mono (by with_reducible assumption) (by first | omega | (simp; omega) | simp))))⟩
end Go.Proofs.Ytcppgigndpepnaa
