/-
  Contracts of wide.Add over whole numbers, wide.Sign, lsq.Accept.
  Conditions: none.
-/
import Derived.Test.YtcppgigndpepnaaWideAdd
import Derived.Test.YtcppgigndpepnaaWideMul
namespace Go.Proofs.Ytcppgigndpepnaa
open Go.RowKit
theorem wadd_any (x y : Int) (hx : -170141183460469231731687303715884105728 ≤ x) (hx2 : x < 170141183460469231731687303715884105728) (hy : -170141183460469231731687303715884105728 ≤ y) (hy2 : y < 170141183460469231731687303715884105728) (w : World) :
    Calls Try.prog 41 #[.agg #[.int .i64 (x / 18446744073709551616), .int .u64 (x % 18446744073709551616)], .agg #[.int .i64 (y / 18446744073709551616), .int .u64 (y % 18446744073709551616)]] w fun e w' => e = .returned (if -170141183460469231731687303715884105728 ≤ x + y ∧ x + y < 170141183460469231731687303715884105728 then .tuple #[.agg #[.int .i64 ((x + y) / 18446744073709551616), .int .u64 ((x + y) % 18446744073709551616)], .bool true] else .tuple #[.agg #[.int .i64 0, .int .u64 0], .bool false]) ∧ Below w.heap.size w w' := by
  have h := add_parts (x / 18446744073709551616) (x % 18446744073709551616) (y / 18446744073709551616) (y % 18446744073709551616) _ _ _ (by omega) (by omega) (by omega) (by omega) (by omega) (by omega) (by omega) (by omega) (wrap_u64 _) (wrap_u64 _) (wrap_i64 _) w
  refine h.mono ?_
  rintro e w' ⟨rfl, hb⟩
  refine ⟨?_, hb⟩
  congr 1
  by_cases hk : -170141183460469231731687303715884105728 ≤ x + y ∧ x + y < 170141183460469231731687303715884105728
  · rw [if_pos hk, if_neg (by omega)]
    have e1 : (x % 18446744073709551616 + y % 18446744073709551616) % 18446744073709551616 = (x + y) % 18446744073709551616 := by omega
    have e2 : (((x / 18446744073709551616 % 18446744073709551616 + y / 18446744073709551616 % 18446744073709551616 + (x % 18446744073709551616 + y % 18446744073709551616) / 18446744073709551616) % 18446744073709551616 + 9223372036854775808) % 18446744073709551616 - 9223372036854775808) = (x + y) / 18446744073709551616 := by omega
    rw [e1, e2]
  · rw [if_neg hk, if_pos (by omega)]
theorem wadd_ok (x y : Int) (hx : -170141183460469231731687303715884105728 ≤ x) (hx2 : x < 170141183460469231731687303715884105728) (hy : -170141183460469231731687303715884105728 ≤ y) (hy2 : y < 170141183460469231731687303715884105728) (h1 : -170141183460469231731687303715884105728 ≤ x + y) (h2 : x + y < 170141183460469231731687303715884105728) (w : World) :
    Calls Try.prog 41 #[.agg #[.int .i64 (x / 18446744073709551616), .int .u64 (x % 18446744073709551616)], .agg #[.int .i64 (y / 18446744073709551616), .int .u64 (y % 18446744073709551616)]] w fun e w' => e = .returned (.tuple #[.agg #[.int .i64 ((x + y) / 18446744073709551616), .int .u64 ((x + y) % 18446744073709551616)], .bool true]) ∧ Below w.heap.size w w' := by
  have h := wadd_any x y hx hx2 hy hy2 w
  rwa [if_pos ⟨h1, h2⟩] at h
def cmpV (x y : Int) : Int := if x < y then -1 else if x = y then 0 else 1
set_option maxRecDepth 100000 in
set_option maxHeartbeats 2000000 in
/-- The order by its parts. -/
theorem cmp_parts (a al b bl : Int) (w : World) : Calls Try.prog 50 #[.agg #[.int .i64 a, .int .u64 al], .agg #[.int .i64 b, .int .u64 bl]] w fun e w' => e = .returned (.int .i64 (if a < b ∨ (a = b ∧ al < bl) then -1 else if a = b ∧ al = bl then 0 else 1)) ∧ Below w.heap.size w w' := by
  have hl := @Later.cell
  by_cases g1 : a < b
  · rw [if_pos (.inl g1)]
    go_enter Try.func50, Try.ntmps50
    go_wp2_with fail
    all_goals (go_ret; exact ⟨rfl, (by repeat (first | with_reducible exact Below.refl _ _ | with_reducible assumption | with_reducible refine Below.drew ?_ | with_reducible refine Below.setCell ?_ (by first | omega | (simp; omega) | simp) _ | with_reducible refine Below.alloc ?_ (by first | omega | (simp; omega) | simp) _ | with_reducible refine Below.trans ?_ (Below.mono (by with_reducible assumption) (by first | omega | (simp; omega) | simp))))⟩)
  · by_cases g2 : a = b
    · subst g2
      by_cases g3 : al < bl
      · rw [if_pos (.inr ⟨rfl, g3⟩)]
        go_enter Try.func50, Try.ntmps50
        go_wp2_with fail
        all_goals (go_ret; exact ⟨rfl, (by repeat (first | with_reducible exact Below.refl _ _ | with_reducible assumption | with_reducible refine Below.drew ?_ | with_reducible refine Below.setCell ?_ (by first | omega | (simp; omega) | simp) _ | with_reducible refine Below.alloc ?_ (by first | omega | (simp; omega) | simp) _ | with_reducible refine Below.trans ?_ (Below.mono (by with_reducible assumption) (by first | omega | (simp; omega) | simp))))⟩)
      · by_cases g4 : al = bl
        · subst g4
          rw [if_neg (by omega), if_pos ⟨rfl, rfl⟩]
          go_enter Try.func50, Try.ntmps50
          go_wp2_with fail
          all_goals (go_ret; exact ⟨rfl, (by repeat (first | with_reducible exact Below.refl _ _ | with_reducible assumption | with_reducible refine Below.drew ?_ | with_reducible refine Below.setCell ?_ (by first | omega | (simp; omega) | simp) _ | with_reducible refine Below.alloc ?_ (by first | omega | (simp; omega) | simp) _ | with_reducible refine Below.trans ?_ (Below.mono (by with_reducible assumption) (by first | omega | (simp; omega) | simp))))⟩)
        · rw [if_neg (by omega), if_neg (by omega)]
          go_enter Try.func50, Try.ntmps50
          go_wp2_with fail
          all_goals (go_ret; exact ⟨rfl, (by repeat (first | with_reducible exact Below.refl _ _ | with_reducible assumption | with_reducible refine Below.drew ?_ | with_reducible refine Below.setCell ?_ (by first | omega | (simp; omega) | simp) _ | with_reducible refine Below.alloc ?_ (by first | omega | (simp; omega) | simp) _ | with_reducible refine Below.trans ?_ (Below.mono (by with_reducible assumption) (by first | omega | (simp; omega) | simp))))⟩)
    · rw [if_neg (by omega), if_neg (by omega)]
      go_enter Try.func50, Try.ntmps50
      go_wp2_with fail
      all_goals (go_ret; exact ⟨rfl, (by repeat (first | with_reducible exact Below.refl _ _ | with_reducible assumption | with_reducible refine Below.drew ?_ | with_reducible refine Below.setCell ?_ (by first | omega | (simp; omega) | simp) _ | with_reducible refine Below.alloc ?_ (by first | omega | (simp; omega) | simp) _ | with_reducible refine Below.trans ?_ (Below.mono (by with_reducible assumption) (by first | omega | (simp; omega) | simp))))⟩)
theorem cmp_any (x y : Int) (w : World) : Calls Try.prog 50 #[.agg #[.int .i64 (x / 18446744073709551616), .int .u64 (x % 18446744073709551616)], .agg #[.int .i64 (y / 18446744073709551616), .int .u64 (y % 18446744073709551616)]] w fun e w' => e = .returned (.int .i64 (cmpV x y)) ∧ Below w.heap.size w w' := by
  refine (cmp_parts _ _ _ _ w).mono ?_
  rintro e w' ⟨rfl, hb⟩
  refine ⟨ret_int ?_, hb⟩
  unfold cmpV
  by_cases h1 : x < y
  · rw [if_pos h1, if_pos (by omega)]
  · rw [if_neg h1, if_neg (by omega)]
    by_cases h2 : x = y
    · rw [if_pos h2, if_pos (by omega)]
    · rw [if_neg h2, if_neg (by omega)]
theorem sign_any (x : Int) (w : World) : Calls Try.prog 74 #[.agg #[.int .i64 (x / 18446744073709551616), .int .u64 (x % 18446744073709551616)]] w fun e w' => e = .returned (.int .i64 (cmpV x 0)) ∧ Below w.heap.size w w' := by
  have h := cmp_any x 0
  rw [show (0 : Int) / 18446744073709551616 = 0 by decide, show (0 : Int) % 18446744073709551616 = 0 by decide] at h
  have H := Lib.hid h
  clear h
  go_enter Try.func74, Try.ntmps74
  go_wp2_with (go_at_call 50; refine (H.out _).mono ?_; rintro e w' ⟨rfl, hb⟩; (try clear hc hf); (try clear hcM hfM); (try clear hcN hfN); (first | ((first | replace hB := Below.next hB (Nat.le_refl _) hb | replace hB := Below.next1 hB (Nat.le_refl _) hb | replace hB := Below.next2 hB (Nat.le_refl _) hb); (first | replace hM := Below.next hM (Nat.le_refl _) hb | replace hM := Below.next1 hM (Nat.le_refl _) hb | replace hM := Below.next2 hM (Nat.le_refl _) hb); (first | replace hN := Below.next hN (Nat.le_refl _) hb | replace hN := Below.next1 hN (Nat.le_refl _) hb | replace hN := Below.next2 hN (Nat.le_refl _) hb)) | ((first | replace hB := Below.next hB (Nat.le_refl _) hb | replace hB := Below.next1 hB (Nat.le_refl _) hb | replace hB := Below.next2 hB (Nat.le_refl _) hb); (first | replace hM := Below.next hM (Nat.le_refl _) hb | replace hM := Below.next1 hM (Nat.le_refl _) hb | replace hM := Below.next2 hM (Nat.le_refl _) hb); have hN := Below.mid hb) | ((first | replace hB := Below.next hB (Nat.le_refl _) hb | replace hB := Below.next1 hB (Nat.le_refl _) hb | replace hB := Below.next2 hB (Nat.le_refl _) hb); (first | replace hM := Below.next hM (Nat.le_refl _) hb | replace hM := Below.next1 hM (Nat.le_refl _) hb | replace hM := Below.next2 hM (Nat.le_refl _) hb)) | ((first | replace hB := Below.next hB (Nat.le_refl _) hb | replace hB := Below.next1 hB (Nat.le_refl _) hb | replace hB := Below.next2 hB (Nat.le_refl _) hb); have hM := Below.mid hb) | (first | replace hB := Below.next hB (Nat.le_refl _) hb | replace hB := Below.next1 hB (Nat.le_refl _) hb | replace hB := Below.next2 hB (Nat.le_refl _) hb) | have hB := hb); obtain ⟨hc, hf, hz⟩ := after hB; (try (have hq := after hM; obtain ⟨hcM, hfM, hzM⟩ := hq)); (try (have hq := after hN; obtain ⟨hcN, hfN, hzN⟩ := hq)); have hs := hb.size; (try simp at hz); (try simp at hs))
  go_ret
  exact ⟨rfl, (by repeat (first | with_reducible exact Below.refl _ _ | with_reducible assumption | with_reducible refine Below.drew ?_ | with_reducible refine Below.setCell ?_ (by first | omega | (simp; omega) | simp) _ | with_reducible refine Below.alloc ?_ (by first | omega | (simp; omega) | simp) _ | with_reducible refine Below.trans ?_ (Below.mono (by with_reducible assumption) (by first | omega | (simp; omega) | simp))))⟩
end Go.Proofs.Ytcppgigndpepnaa
