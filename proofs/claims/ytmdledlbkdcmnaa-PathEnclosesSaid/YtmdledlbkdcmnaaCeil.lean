/-
  Contracts of division rounded up by a positive number, ours and the reference's.
  Conditions: the division's divisor is positive.
-/
import Derived.Test.YtmdledlbkdcmnaaAt
namespace Go.Proofs.Ytmdledlbkdcmnaa
open Go.RowKit
theorem tdiv_ceil {n d : Int} (hd : 0 < d) : (if n.tmod d ≠ 0 ∧ ¬n < 0 then n.tdiv d + 1 else n.tdiv d) = -(-n / d) := by
  have h := tdiv_floor (n := -n) hd
  rw [Int.neg_tdiv, Int.neg_tmod] at h
  rw [← h]
  by_cases hr : n.tmod d = 0
  · rw [if_neg (by simp [hr]), if_neg (by simp [hr])]; omega
  · have hn : n ≠ 0 := by rintro rfl; simp at hr
    by_cases h0 : n < 0
    · rw [if_neg (by omega), if_neg (by omega)]; omega
    · rw [if_pos ⟨hr, h0⟩, if_pos ⟨by omega, by omega⟩]; omega
theorem ceil_bd {n d : Int} (hd : 0 < d) (h1 : -9223372036854775807 ≤ n) (h2 : n ≤ 9223372036854775807) : -9223372036854775807 ≤ -(-n / d) ∧ -(-n / d) ≤ 9223372036854775807 := by
  have h3 : (-9223372036854775807 : Int) ≤ -n / d := Int.le_ediv_of_mul_le hd (by omega)
  have h4 : -n / d < 9223372036854775808 := Int.ediv_lt_of_lt_mul hd (by omega)
  omega
theorem ceil_more {n d : Int} (hd : 0 < d) (h1 : -9223372036854775807 ≤ n) (h2 : n ≤ 9223372036854775807) (hr : ¬n.tmod d = 0) (hn : ¬n < 0) : wrap64 (n.tdiv d + 1) = -(-n / d) := by
  have hf := tdiv_ceil (n := n) hd
  rw [if_pos ⟨hr, hn⟩] at hf
  have := ceil_bd hd h1 h2
  rw [hf]
  exact wrap_id (by omega) (by omega)
theorem ceil_same {n d : Int} (hd : 0 < d) (hr : ¬(n.tmod d ≠ 0 ∧ ¬n < 0)) : n.tdiv d = -(-n / d) := by
  have hf := tdiv_ceil (n := n) hd
  rwa [if_neg hr] at hf
set_option maxHeartbeats 1000000 in
theorem ceildiv_any (n d : Int) (hd : 0 < d) (hn1 : -9223372036854775807 ≤ n) (hn2 : n ≤ 9223372036854775807) (hd2 : d ≤ 9223372036854775807) (w : World) : Calls Try.prog 121 #[.int .i64 n, .int .i64 d] w fun e w' => e = .returned (.tuple #[.int .i64 (-(-n / d)), .int .i64 0]) ∧ Below w.heap.size w w' := by
  go_enter Try.func121, Try.ntmps121
  go_wp2_with (go_at_call 131; refine (divided_any _ _ hd _).mono ?_; rintro e w' ⟨rfl, rfl⟩)
  all_goals go_ret2
  all_goals
    refine ⟨ret_tup ?_, (by repeat (first | with_reducible exact Below.refl _ _ | with_reducible assumption | with_reducible refine Below.drew ?_ | with_reducible refine Below.setCell ?_ (by first | omega | (simp; omega) | simp) _ | with_reducible refine Below.alloc ?_ (by first | omega | (simp; omega) | simp) _ | with_reducible refine Below.trans ?_ (Below.mono (by with_reducible assumption) (by first | omega | (simp; omega) | simp))))⟩
    first
      | exact ceil_same hd (by grind)
      | exact ceil_more hd hn1 hn2 (by grind) (by grind)
theorem floor_ceil {n d : Int} (hd : 0 < d) (hr : ¬n.tmod d = 0) : n / d + 1 = -(-n / d) := by
  have h1 := tdiv_floor (n := n) hd
  have h2 := tdiv_ceil (n := n) hd
  by_cases h0 : n < 0
  · rw [if_pos ⟨hr, h0⟩] at h1; rw [if_neg (by omega)] at h2; omega
  · rw [if_neg (by omega)] at h1; rw [if_pos ⟨hr, h0⟩] at h2; omega
theorem floor_even {n d : Int} (hd : 0 < d) (hr : n.tmod d = 0) : n / d = -(-n / d) := by
  have h1 := tdiv_floor (n := n) hd
  have h2 := tdiv_ceil (n := n) hd
  rw [if_neg (by simp [hr])] at h1 h2
  omega
theorem floor_up {n d : Int} (hd : 0 < d) (hn1 : -9223372036854775807 ≤ n) (hn2 : n ≤ 9223372036854775807) (hr : ¬n.tmod d = 0) : wrap64 (n / d + 1) = -(-n / d) := by
  rw [floor_ceil hd hr]
  have := ceil_bd hd hn1 hn2
  exact wrap_id (by omega) (by omega)
set_option maxHeartbeats 1000000 in
theorem rceildiv_any (n d : Int) (hd : 0 < d) (hn1 : -9223372036854775807 ≤ n) (hn2 : n ≤ 9223372036854775807) (hd2 : d ≤ 9223372036854775807) (w : World) : Calls Try.prog 125 #[.int .i64 n, .int .i64 d] w fun e w' => e = .returned (.tuple #[.int .i64 (-(-n / d)), .int .i64 0]) ∧ Below w.heap.size w w' := by
  have hd0 : ¬d = 0 := by omega
  have hf := fun w => rfloordiv_any n d hd (by omega) hn2 hd2 w
  have hbd := div_bd hd (n := n) (by omega) hn2
  have hF := Lib.hid hf
  clear hf
  generalize hq : n / d = q at *
  have hQ := Lib.hid hq
  clear hq
  go_enter Try.func125, Try.ntmps125
  go_wp2_with (go_at_call 126; refine (hF.out _).mono ?_; rintro e w' ⟨rfl, hb⟩; (try clear hc hf); (try clear hcM hfM); (try clear hcN hfN); (first | ((first | replace hB := Below.next hB (Nat.le_refl _) hb | replace hB := Below.next1 hB (Nat.le_refl _) hb | replace hB := Below.next2 hB (Nat.le_refl _) hb); (first | replace hM := Below.next hM (Nat.le_refl _) hb | replace hM := Below.next1 hM (Nat.le_refl _) hb | replace hM := Below.next2 hM (Nat.le_refl _) hb); (first | replace hN := Below.next hN (Nat.le_refl _) hb | replace hN := Below.next1 hN (Nat.le_refl _) hb | replace hN := Below.next2 hN (Nat.le_refl _) hb)) | ((first | replace hB := Below.next hB (Nat.le_refl _) hb | replace hB := Below.next1 hB (Nat.le_refl _) hb | replace hB := Below.next2 hB (Nat.le_refl _) hb); (first | replace hM := Below.next hM (Nat.le_refl _) hb | replace hM := Below.next1 hM (Nat.le_refl _) hb | replace hM := Below.next2 hM (Nat.le_refl _) hb); have hN := Below.mid hb) | ((first | replace hB := Below.next hB (Nat.le_refl _) hb | replace hB := Below.next1 hB (Nat.le_refl _) hb | replace hB := Below.next2 hB (Nat.le_refl _) hb); (first | replace hM := Below.next hM (Nat.le_refl _) hb | replace hM := Below.next1 hM (Nat.le_refl _) hb | replace hM := Below.next2 hM (Nat.le_refl _) hb)) | ((first | replace hB := Below.next hB (Nat.le_refl _) hb | replace hB := Below.next1 hB (Nat.le_refl _) hb | replace hB := Below.next2 hB (Nat.le_refl _) hb); have hM := Below.mid hb) | (first | replace hB := Below.next hB (Nat.le_refl _) hb | replace hB := Below.next1 hB (Nat.le_refl _) hb | replace hB := Below.next2 hB (Nat.le_refl _) hb) | have hB := hb); obtain ⟨hc, hf, hz⟩ := after hB; (try (have hq := after hM; obtain ⟨hcM, hfM, hzM⟩ := hq)); (try (have hq := after hN; obtain ⟨hcN, hfN, hzN⟩ := hq)); have hs := hb.size; (try simp at hz); (try simp at hs))
  all_goals go_ret2
  all_goals
    refine ⟨ret_tup ?_, (by repeat (first | with_reducible exact Below.refl _ _ | with_reducible assumption | with_reducible refine Below.drew ?_ | with_reducible refine Below.setCell ?_ (by first | omega | (simp; omega) | simp) _ | with_reducible refine Below.alloc ?_ (by first | omega | (simp; omega) | simp) _ | with_reducible refine Below.trans ?_ (Below.mono (by with_reducible assumption) (by first | omega | (simp; omega) | simp))))⟩
    rw [← hQ.out]
    first
      | exact floor_even hd (by grind)
      | exact floor_up hd hn1 hn2 (by grind)
end Go.Proofs.Ytmdledlbkdcmnaa
