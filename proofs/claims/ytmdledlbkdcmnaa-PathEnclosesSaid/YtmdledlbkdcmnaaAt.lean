/-
  Contracts of division rounded down by a positive number, of the acceptance of a line, and of At, ours and the reference's.
  Conditions: the division's divisor is positive.
-/
import Derived.Test.YtmdledlbkdcmnaaOfPts
namespace Go.Proofs.Ytmdledlbkdcmnaa
open Go.RowKit
theorem tdiv_floor {n d : Int} (hd : 0 < d) : (if n.tmod d ≠ 0 ∧ n < 0 then n.tdiv d - 1 else n.tdiv d) = n / d := by
  rcases Int.le_total 0 n with h | h
  · rw [if_neg (by omega), Int.tdiv_eq_ediv_of_nonneg h]
  · obtain ⟨m, rfl⟩ : ∃ m, n = -m := ⟨-n, by omega⟩
    have hm : 0 ≤ m := by omega
    rw [Int.neg_tdiv, Int.neg_tmod, Int.tdiv_eq_ediv_of_nonneg hm, Int.tmod_eq_emod_of_nonneg hm]
    have h2 := Int.mul_ediv_add_emod m d
    have h3 := Int.emod_nonneg m (by omega : d ≠ 0)
    have h4 := Int.emod_lt_of_pos m hd
    generalize m / d = q at *
    generalize m % d = r at *
    rcases Int.lt_or_eq_of_le h3 with hr | hr
    · have e : -m = (d - r) + d * (-q - 1) := by rw [← h2]; grind
      have hm0 : -m < 0 := by
        rcases Int.lt_or_eq_of_le hm with h | h
        · omega
        · exfalso
          subst h
          have : d * q = -r := by omega
          rcases Int.lt_or_le q 0 with hq | hq
          · have := Int.mul_le_mul_of_nonneg_left (show q ≤ -1 by omega) (Int.le_of_lt hd); omega
          · have := Int.mul_nonneg (Int.le_of_lt hd) hq; omega
      rw [if_pos ⟨by omega, hm0⟩, e, Int.add_mul_ediv_left _ _ (by omega), Int.ediv_eq_zero_of_lt (by omega) (by omega)]
      omega
    · subst hr
      rw [if_neg (by simp)]
      have e : -m = d * (-q) := by rw [← h2]; grind
      rw [e, Int.mul_ediv_cancel_left _ (by omega)]
theorem div_bd {n d : Int} (hd : 0 < d) (hn1 : -9223372036854775808 ≤ n) (hn2 : n ≤ 9223372036854775807) : -9223372036854775808 ≤ n / d ∧ n / d ≤ 9223372036854775807 := by
  have h1 : (-9223372036854775808 : Int) ≤ n / d := Int.le_ediv_of_mul_le hd (by omega)
  have h2 : n / d < 9223372036854775808 := Int.ediv_lt_of_lt_mul hd (by omega)
  omega
theorem ret_tup {a b : Int} (h : a = b) : Ending.returned (.tuple #[.int .i64 a, .int .i64 0]) = .returned (.tuple #[.int .i64 b, .int .i64 0]) := by rw [h]
theorem floor_less {n d : Int} (hd : 0 < d) (h1 : -9223372036854775808 ≤ n) (h2 : n ≤ 9223372036854775807) (hr : ¬n.tmod d = 0) (hn : n < 0) : wrap64 (n.tdiv d - 1) = n / d := by
  have hf := tdiv_floor (n := n) hd
  rw [if_pos ⟨hr, hn⟩] at hf
  have := div_bd hd h1 h2
  rw [hf]
  exact wrap_id (by omega) (by omega)
theorem floor_same {n d : Int} (hd : 0 < d) (hr : ¬(n.tmod d ≠ 0 ∧ n < 0)) : n.tdiv d = n / d := by
  have hf := tdiv_floor (n := n) hd
  rwa [if_neg hr] at hf
theorem tdiv_bd {n d : Int} (hd : 0 < d) (h1 : -9223372036854775808 ≤ n) (h2 : n ≤ 9223372036854775807) : -9223372036854775808 ≤ n.tdiv d ∧ n.tdiv d ≤ 9223372036854775807 := by
  have hb := div_bd hd h1 h2
  have hf := tdiv_floor (n := n) hd
  split at hf
  · rename_i hc
    have := Int.ediv_neg_of_neg_of_pos hc.2 hd
    omega
  · omega
theorem tmod_sign {n d : Int} (hd : 0 < d) : n.tmod d < 0 ↔ (¬n.tmod d = 0 ∧ n < 0) := by
  rcases Int.le_total 0 n with h | h
  · have := Int.emod_nonneg n (by omega : d ≠ 0)
    rw [Int.tmod_eq_emod_of_nonneg h]; omega
  · obtain ⟨m, rfl⟩ : ∃ m, n = -m := ⟨-n, by omega⟩
    have hm : 0 ≤ m := by omega
    have h3 := Int.emod_nonneg m (by omega : d ≠ 0)
    rw [Int.neg_tmod, Int.tmod_eq_emod_of_nonneg hm]
    rcases Int.lt_or_eq_of_le hm with h0 | h0
    · omega
    · subst h0; simp
theorem divided_any (n d : Int) (hd : 0 < d) (w : World) : Calls Try.prog 131 #[.int .i64 n, .int .i64 d] w fun e w' => e = .returned (.int .i64 0) ∧ w = w' := by
  go_enter Try.func131, Try.ntmps131
  go_wp2_with fail
  all_goals (go_ret; exact ⟨rfl, rfl⟩)
set_option maxHeartbeats 1000000 in
theorem floordiv_any (n d : Int) (hd : 0 < d) (hn1 : -9223372036854775808 ≤ n) (hn2 : n ≤ 9223372036854775807) (hd2 : d ≤ 9223372036854775807) (w : World) : Calls Try.prog 120 #[.int .i64 n, .int .i64 d] w fun e w' => e = .returned (.tuple #[.int .i64 (n / d), .int .i64 0]) ∧ Below w.heap.size w w' := by
  go_enter Try.func120, Try.ntmps120
  go_wp2_with (go_at_call 131; refine (divided_any _ _ hd _).mono ?_; rintro e w' ⟨rfl, rfl⟩)
  all_goals go_ret2
  all_goals
    refine ⟨ret_tup ?_, (by repeat (first | with_reducible exact Below.refl _ _ | with_reducible assumption | with_reducible refine Below.drew ?_ | with_reducible refine Below.setCell ?_ (by first | omega | (simp; omega) | simp) _ | with_reducible refine Below.alloc ?_ (by first | omega | (simp; omega) | simp) _ | with_reducible refine Below.trans ?_ (Below.mono (by with_reducible assumption) (by first | omega | (simp; omega) | simp))))⟩
    first
      | exact floor_same hd (by grind)
      | exact floor_less hd hn1 hn2 (by grind) (by grind)
set_option maxHeartbeats 1000000 in
theorem rfloordiv_any (n d : Int) (hd : 0 < d) (hn0 : -9223372036854775808 < n) (hn2 : n ≤ 9223372036854775807) (hd2 : d ≤ 9223372036854775807) (w : World) : Calls Try.prog 126 #[.int .i64 n, .int .i64 d] w fun e w' => e = .returned (.tuple #[.int .i64 (n / d), .int .i64 0]) ∧ Below w.heap.size w w' := by
  have hn1 : -9223372036854775808 ≤ n := by omega
  have hd0 : ¬d = 0 := by omega
  have hb := tdiv_bd hd hn1 hn2
  have hk : IntKind.i64.wrap (n.tdiv d) = n.tdiv d := kwrap_id (by omega) (by omega)
  clear hb
  go_enter Try.func126, Try.ntmps126
  go_wp2_with fail
  refine region_still (by kernel_rfl) (by kernel_rfl) ?_; intro W' hW hC; skip; replace hW := Lib.hid hW; clear hC; (repeat still_step); refine wpStill_nil ?_; obtain rfl := hW.out; clear hW
  go_wp2_with fail
  all_goals go_ret2
  all_goals
    refine ⟨ret_tup ?_, (by repeat (first | with_reducible exact Below.refl _ _ | with_reducible assumption | with_reducible refine Below.drew ?_ | with_reducible refine Below.setCell ?_ (by first | omega | (simp; omega) | simp) _ | with_reducible refine Below.alloc ?_ (by first | omega | (simp; omega) | simp) _ | with_reducible refine Below.trans ?_ (Below.mono (by with_reducible assumption) (by first | omega | (simp; omega) | simp))))⟩
    have hsg := tmod_sign (n := n) hd
    clear hk
    first
      | exact floor_same hd (by rw [ne_eq, ← hsg]; grind)
      | exact floor_less hd hn1 hn2 (hsg.1 (by grind)).1 (hsg.1 (by grind)).2

def atV (A B D t : Int) : Value := if okL A B D = true then (if t < 0 ∨ 8000 < t then .tuple #[.int .i64 0, .int .i64 2] else .tuple #[.int .i64 ((2 * (A + B * t) + D) / (2 * D)), .int .i64 0]) else .tuple #[.int .i64 0, .int .i64 1]
theorem at_bd {A B D t : Int} (h : okL A B D = true) (h1 : 0 ≤ t) (h2 : t ≤ 8000) : (-562949953421312000 ≤ B * t ∧ B * t ≤ 562949953421312000) := by
  have := okL_iff h
  have p := mul_bd (A := 70368744177664) (B := 8000) (a := B) (b := t) (by omega) (by omega) (by omega) (by omega)
  omega
end Go.Proofs.Ytmdledlbkdcmnaa
