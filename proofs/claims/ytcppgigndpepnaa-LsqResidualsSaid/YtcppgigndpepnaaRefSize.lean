/-
  Contracts of the reference's limbs of a wide number, there and back.
  Conditions: none.
-/
import Derived.Test.YtcppgigndpepnaaLimbs
import Derived.Test.YtcppgigndpepnaaAccept
namespace Go.Proofs.Ytcppgigndpepnaa
open Go.RowKit
set_option maxRecDepth 100000 in
set_option maxHeartbeats 4000000 in
theorem rsize_pos (m : Int) (h1 : 0 ≤ m) (h2 : m < 170141183460469231731687303715884105728) (w : World) : Calls Try.prog 87 #[.agg #[.int .i64 (m / 18446744073709551616), .int .u64 (m % 18446744073709551616)]] w fun e w' => e = .returned (.agg #[.int .u64 (m % 18446744073709551616 % 4294967296), .int .u64 (m % 18446744073709551616 / 4294967296), .int .u64 (m / 18446744073709551616 % 4294967296), .int .u64 (m / 18446744073709551616 / 4294967296)]) ∧ Below w.heap.size w w' := by
  have g1 : 0 ≤ m / 18446744073709551616 := by omega
  have g2 : IntKind.u64.wrap (m / 18446744073709551616) = m / 18446744073709551616 := by rw [wrap_u64]; omega
  have a1 := and32 (x := m / 18446744073709551616) (by omega) (by omega)
  have a2 := and32 (x := m % 18446744073709551616) (by omega) (by omega)
  generalize m / 18446744073709551616 = H at *
  generalize m % 18446744073709551616 = L at *
  go_enter Try.func87, Try.ntmps87
  go_wp2_with fail
  have hl := @Later.cell
  refine region_later (by kernel_rfl) (by kernel_rfl) ?_; (repeat (go_big_quiet_step (fail))); refine wpQuiet_nil ?_; rintro _ ⟨x, rfl⟩; obtain ⟨w', hb⟩ := x; (try clear hc hf); (try clear hcM hfM); (try clear hcN hfN); (first | ((first | replace hB := Below.next hB (Nat.le_refl _) hb | replace hB := Below.next1 hB (Nat.le_refl _) hb | replace hB := Below.next2 hB (Nat.le_refl _) hb); (first | replace hM := Below.next hM (Nat.le_refl _) hb | replace hM := Below.next1 hM (Nat.le_refl _) hb | replace hM := Below.next2 hM (Nat.le_refl _) hb); (first | replace hN := Below.next hN (Nat.le_refl _) hb | replace hN := Below.next1 hN (Nat.le_refl _) hb | replace hN := Below.next2 hN (Nat.le_refl _) hb)) | ((first | replace hB := Below.next hB (Nat.le_refl _) hb | replace hB := Below.next1 hB (Nat.le_refl _) hb | replace hB := Below.next2 hB (Nat.le_refl _) hb); (first | replace hM := Below.next hM (Nat.le_refl _) hb | replace hM := Below.next1 hM (Nat.le_refl _) hb | replace hM := Below.next2 hM (Nat.le_refl _) hb); have hN := Below.mid hb) | ((first | replace hB := Below.next hB (Nat.le_refl _) hb | replace hB := Below.next1 hB (Nat.le_refl _) hb | replace hB := Below.next2 hB (Nat.le_refl _) hb); (first | replace hM := Below.next hM (Nat.le_refl _) hb | replace hM := Below.next1 hM (Nat.le_refl _) hb | replace hM := Below.next2 hM (Nat.le_refl _) hb)) | ((first | replace hB := Below.next hB (Nat.le_refl _) hb | replace hB := Below.next1 hB (Nat.le_refl _) hb | replace hB := Below.next2 hB (Nat.le_refl _) hb); have hM := Below.mid hb) | (first | replace hB := Below.next hB (Nat.le_refl _) hb | replace hB := Below.next1 hB (Nat.le_refl _) hb | replace hB := Below.next2 hB (Nat.le_refl _) hb) | have hB := hb); obtain ⟨hc, hf, hz⟩ := after hB; (try (have hq := after hM; obtain ⟨hcM, hfM, hzM⟩ := hq)); (try (have hq := after hN; obtain ⟨hcN, hfN, hzN⟩ := hq)); have hs := hb.size; (try simp at hz); (try simp at hs)
  go_wp2_with fail
  have hK := Below.next2 (Below.refl w.heap.size w) (Nat.le_refl _) hb
  refine bodyPost_ret (v := .agg #[.int .u64 (L % 4294967296), .int .u64 (L / 4294967296), .int .u64 (H % 4294967296), .int .u64 (H / 4294967296)]) (by simp only [results, Try.results87]; go_simp) rfl ⟨rfl, (by repeat (first | with_reducible exact Below.refl _ _ | with_reducible assumption | with_reducible refine Below.drew ?_ | with_reducible refine Below.setCell ?_ (by first | omega | (simp; omega) | simp) _ | with_reducible refine Below.alloc ?_ (by first | omega | (simp; omega) | simp) _ | with_reducible refine Below.trans ?_ (Below.mono (by with_reducible assumption) (by first | omega | (simp; omega) | simp))))⟩
set_option maxRecDepth 100000 in
set_option maxHeartbeats 4000000 in
theorem rsize_neg (m : Int) (h1 : 0 < m) (h2 : m ≤ 170141183460469231731687303715884105728) (w : World) : Calls Try.prog 87 #[.agg #[.int .i64 (-m / 18446744073709551616), .int .u64 (-m % 18446744073709551616)]] w fun e w' => e = .returned (.agg #[.int .u64 (m % 18446744073709551616 % 4294967296), .int .u64 (m % 18446744073709551616 / 4294967296), .int .u64 (m / 18446744073709551616 % 4294967296), .int .u64 (m / 18446744073709551616 / 4294967296)]) ∧ Below w.heap.size w w' := by
  have g1 : -m / 18446744073709551616 < 0 := by omega
  have g2 : IntKind.u64.wrap (-m / 18446744073709551616) = 18446744073709551616 + -m / 18446744073709551616 := by rw [wrap_u64]; omega
  have n1 := not_u64 (x := -m % 18446744073709551616) (by omega) (by omega)
  have n2 := not_u64 (x := 18446744073709551616 + -m / 18446744073709551616) (by omega) (by omega)
  have a1 := and32 (x := m / 18446744073709551616) (by omega) (by omega)
  have a2 := and32 (x := m % 18446744073709551616) (by omega) (by omega)
  have k1 : IntKind.u64.wrap (18446744073709551615 - -m % 18446744073709551616 + 1) = m % 18446744073709551616 := by rw [wrap_u64]; omega
  by_cases hLz : m % 18446744073709551616 = 0
  · have k2 : IntKind.u64.wrap (18446744073709551615 - (18446744073709551616 + -m / 18446744073709551616) + 1) = m / 18446744073709551616 := by rw [wrap_u64]; omega
    generalize -m / 18446744073709551616 = P at *
    generalize -m % 18446744073709551616 = Q at *
    generalize m / 18446744073709551616 = H at *
    generalize m % 18446744073709551616 = L at *
    subst hLz
    go_enter Try.func87, Try.ntmps87
    go_wp2_with fail
    have hl := @Later.cell
    refine region_later (by kernel_rfl) (by kernel_rfl) ?_; (repeat (go_big_quiet_step (fail))); refine wpQuiet_nil ?_; rintro _ ⟨x, rfl⟩; obtain ⟨w', hb⟩ := x; (try clear hc hf); (try clear hcM hfM); (try clear hcN hfN); (first | ((first | replace hB := Below.next hB (Nat.le_refl _) hb | replace hB := Below.next1 hB (Nat.le_refl _) hb | replace hB := Below.next2 hB (Nat.le_refl _) hb); (first | replace hM := Below.next hM (Nat.le_refl _) hb | replace hM := Below.next1 hM (Nat.le_refl _) hb | replace hM := Below.next2 hM (Nat.le_refl _) hb); (first | replace hN := Below.next hN (Nat.le_refl _) hb | replace hN := Below.next1 hN (Nat.le_refl _) hb | replace hN := Below.next2 hN (Nat.le_refl _) hb)) | ((first | replace hB := Below.next hB (Nat.le_refl _) hb | replace hB := Below.next1 hB (Nat.le_refl _) hb | replace hB := Below.next2 hB (Nat.le_refl _) hb); (first | replace hM := Below.next hM (Nat.le_refl _) hb | replace hM := Below.next1 hM (Nat.le_refl _) hb | replace hM := Below.next2 hM (Nat.le_refl _) hb); have hN := Below.mid hb) | ((first | replace hB := Below.next hB (Nat.le_refl _) hb | replace hB := Below.next1 hB (Nat.le_refl _) hb | replace hB := Below.next2 hB (Nat.le_refl _) hb); (first | replace hM := Below.next hM (Nat.le_refl _) hb | replace hM := Below.next1 hM (Nat.le_refl _) hb | replace hM := Below.next2 hM (Nat.le_refl _) hb)) | ((first | replace hB := Below.next hB (Nat.le_refl _) hb | replace hB := Below.next1 hB (Nat.le_refl _) hb | replace hB := Below.next2 hB (Nat.le_refl _) hb); have hM := Below.mid hb) | (first | replace hB := Below.next hB (Nat.le_refl _) hb | replace hB := Below.next1 hB (Nat.le_refl _) hb | replace hB := Below.next2 hB (Nat.le_refl _) hb) | have hB := hb); obtain ⟨hc, hf, hz⟩ := after hB; (try (have hq := after hM; obtain ⟨hcM, hfM, hzM⟩ := hq)); (try (have hq := after hN; obtain ⟨hcN, hfN, hzN⟩ := hq)); have hs := hb.size; (try simp at hz); (try simp at hs)
    go_wp2_with fail
    all_goals have hK := Below.next2 (Below.refl w.heap.size w) (Nat.le_refl _) hb
    all_goals first
    | (exfalso; rename_i hbad; rw [if_neg (show ¬IntKind.u64.signed = true by decide), n1, k1] at hbad; revert hbad; simp; done)
    | refine bodyPost_ret (v := .agg #[.int .u64 0, .int .u64 0, .int .u64 (H % 4294967296), .int .u64 (H / 4294967296)]) (by simp only [results, Try.results87]; go_simp) rfl ⟨rfl, (by repeat (first | with_reducible exact Below.refl _ _ | with_reducible assumption | with_reducible refine Below.drew ?_ | with_reducible refine Below.setCell ?_ (by first | omega | (simp; omega) | simp) _ | with_reducible refine Below.alloc ?_ (by first | omega | (simp; omega) | simp) _ | with_reducible refine Below.trans ?_ (Below.mono (by with_reducible assumption) (by first | omega | (simp; omega) | simp))))⟩
  · have k2 : 18446744073709551615 - (18446744073709551616 + -m / 18446744073709551616) = m / 18446744073709551616 := by omega
    generalize -m / 18446744073709551616 = P at *
    generalize -m % 18446744073709551616 = Q at *
    generalize m / 18446744073709551616 = H at *
    generalize m % 18446744073709551616 = L at *
    go_enter Try.func87, Try.ntmps87
    go_wp2_with fail
    have hl := @Later.cell
    refine region_later (by kernel_rfl) (by kernel_rfl) ?_; (repeat (go_big_quiet_step (fail))); refine wpQuiet_nil ?_; rintro _ ⟨x, rfl⟩; obtain ⟨w', hb⟩ := x; (try clear hc hf); (try clear hcM hfM); (try clear hcN hfN); (first | ((first | replace hB := Below.next hB (Nat.le_refl _) hb | replace hB := Below.next1 hB (Nat.le_refl _) hb | replace hB := Below.next2 hB (Nat.le_refl _) hb); (first | replace hM := Below.next hM (Nat.le_refl _) hb | replace hM := Below.next1 hM (Nat.le_refl _) hb | replace hM := Below.next2 hM (Nat.le_refl _) hb); (first | replace hN := Below.next hN (Nat.le_refl _) hb | replace hN := Below.next1 hN (Nat.le_refl _) hb | replace hN := Below.next2 hN (Nat.le_refl _) hb)) | ((first | replace hB := Below.next hB (Nat.le_refl _) hb | replace hB := Below.next1 hB (Nat.le_refl _) hb | replace hB := Below.next2 hB (Nat.le_refl _) hb); (first | replace hM := Below.next hM (Nat.le_refl _) hb | replace hM := Below.next1 hM (Nat.le_refl _) hb | replace hM := Below.next2 hM (Nat.le_refl _) hb); have hN := Below.mid hb) | ((first | replace hB := Below.next hB (Nat.le_refl _) hb | replace hB := Below.next1 hB (Nat.le_refl _) hb | replace hB := Below.next2 hB (Nat.le_refl _) hb); (first | replace hM := Below.next hM (Nat.le_refl _) hb | replace hM := Below.next1 hM (Nat.le_refl _) hb | replace hM := Below.next2 hM (Nat.le_refl _) hb)) | ((first | replace hB := Below.next hB (Nat.le_refl _) hb | replace hB := Below.next1 hB (Nat.le_refl _) hb | replace hB := Below.next2 hB (Nat.le_refl _) hb); have hM := Below.mid hb) | (first | replace hB := Below.next hB (Nat.le_refl _) hb | replace hB := Below.next1 hB (Nat.le_refl _) hb | replace hB := Below.next2 hB (Nat.le_refl _) hb) | have hB := hb); obtain ⟨hc, hf, hz⟩ := after hB; (try (have hq := after hM; obtain ⟨hcM, hfM, hzM⟩ := hq)); (try (have hq := after hN; obtain ⟨hcN, hfN, hzN⟩ := hq)); have hs := hb.size; (try simp at hz); (try simp at hs)
    go_wp2_with fail
    all_goals have hK := Below.next2 (Below.refl w.heap.size w) (Nat.le_refl _) hb
    all_goals first
    | (exfalso; rename_i hbad; rw [if_neg (show ¬IntKind.u64.signed = true by decide), n1, k1] at hbad; revert hbad; simpa using hLz)
    | refine bodyPost_ret (v := .agg #[.int .u64 (L % 4294967296), .int .u64 (L / 4294967296), .int .u64 (H % 4294967296), .int .u64 (H / 4294967296)]) (by simp only [results, Try.results87]; go_simp) rfl ⟨rfl, (by repeat (first | with_reducible exact Below.refl _ _ | with_reducible assumption | with_reducible refine Below.drew ?_ | with_reducible refine Below.setCell ?_ (by first | omega | (simp; omega) | simp) _ | with_reducible refine Below.alloc ?_ (by first | omega | (simp; omega) | simp) _ | with_reducible refine Below.trans ?_ (Below.mono (by with_reducible assumption) (by first | omega | (simp; omega) | simp))))⟩
theorem rsize_any (x : Int) (h1 : -170141183460469231731687303715884105728 ≤ x) (h2 : x < 170141183460469231731687303715884105728) (w : World) : Calls Try.prog 87 #[.agg #[.int .i64 (x / 18446744073709551616), .int .u64 (x % 18446744073709551616)]] w fun e w' => e = .returned (.agg #[.int .u64 ((x.natAbs : Int) % 18446744073709551616 % 4294967296), .int .u64 ((x.natAbs : Int) % 18446744073709551616 / 4294967296), .int .u64 ((x.natAbs : Int) / 18446744073709551616 % 4294967296), .int .u64 ((x.natAbs : Int) / 18446744073709551616 / 4294967296)]) ∧ Below w.heap.size w w' := by
  rcases Int.lt_or_le x 0 with h | h
  · rw [Int.ofNat_natAbs_of_nonpos (by omega)]
    have := rsize_neg (-x) (by omega) (by omega) w
    rwa [Int.neg_neg] at this
  · rw [Int.natAbs_of_nonneg h]; exact rsize_pos x h h2 w
end Go.Proofs.Ytcppgigndpepnaa
