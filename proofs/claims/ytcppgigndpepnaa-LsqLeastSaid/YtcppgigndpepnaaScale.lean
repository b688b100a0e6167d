/-
  Contract of wide.Scale.
  Conditions: none.
-/
import Derived.Test.YtcppgigndpepnaaAccept
import Derived.Deep.RegionWith
namespace Go.Proofs.Ytcppgigndpepnaa
open Go.RowKit
set_option maxRecDepth 100000 in
set_option maxHeartbeats 2000000 in
theorem size_pos (x : Int) (h1 : 0 ≤ x) (h2 : x < 170141183460469231731687303715884105728) (w : World) : Calls Try.prog 80 #[.agg #[.int .i64 (x / 18446744073709551616), .int .u64 (x % 18446744073709551616)]] w fun e w' => e = .returned (.tuple #[.int .u64 (x / 18446744073709551616), .int .u64 (x % 18446744073709551616), .bool false]) ∧ Below w.heap.size w w' := by
  have g1 : 0 ≤ x / 18446744073709551616 := by omega
  have g2 : IntKind.u64.wrap (x / 18446744073709551616) = x / 18446744073709551616 := by rw [wrap_u64]; omega
  go_enter Try.func80, Try.ntmps80
  go_wp2_with fail
  have hl := @Later.cell
  refine region_later (by kernel_rfl) (by kernel_rfl) ?_; (repeat (go_big_quiet_step (fail))); refine wpQuiet_nil ?_; rintro _ ⟨x, rfl⟩; obtain ⟨w', hb⟩ := x; (try clear hc hf); (try clear hcM hfM); (try clear hcN hfN); (first | ((first | replace hB := Below.next hB (Nat.le_refl _) hb | replace hB := Below.next1 hB (Nat.le_refl _) hb | replace hB := Below.next2 hB (Nat.le_refl _) hb); (first | replace hM := Below.next hM (Nat.le_refl _) hb | replace hM := Below.next1 hM (Nat.le_refl _) hb | replace hM := Below.next2 hM (Nat.le_refl _) hb); (first | replace hN := Below.next hN (Nat.le_refl _) hb | replace hN := Below.next1 hN (Nat.le_refl _) hb | replace hN := Below.next2 hN (Nat.le_refl _) hb)) | ((first | replace hB := Below.next hB (Nat.le_refl _) hb | replace hB := Below.next1 hB (Nat.le_refl _) hb | replace hB := Below.next2 hB (Nat.le_refl _) hb); (first | replace hM := Below.next hM (Nat.le_refl _) hb | replace hM := Below.next1 hM (Nat.le_refl _) hb | replace hM := Below.next2 hM (Nat.le_refl _) hb); have hN := Below.mid hb) | ((first | replace hB := Below.next hB (Nat.le_refl _) hb | replace hB := Below.next1 hB (Nat.le_refl _) hb | replace hB := Below.next2 hB (Nat.le_refl _) hb); (first | replace hM := Below.next hM (Nat.le_refl _) hb | replace hM := Below.next1 hM (Nat.le_refl _) hb | replace hM := Below.next2 hM (Nat.le_refl _) hb)) | ((first | replace hB := Below.next hB (Nat.le_refl _) hb | replace hB := Below.next1 hB (Nat.le_refl _) hb | replace hB := Below.next2 hB (Nat.le_refl _) hb); have hM := Below.mid hb) | (first | replace hB := Below.next hB (Nat.le_refl _) hb | replace hB := Below.next1 hB (Nat.le_refl _) hb | replace hB := Below.next2 hB (Nat.le_refl _) hb) | have hB := hb); obtain ⟨hc, hf, hz⟩ := after hB; (try (have hq := after hM; obtain ⟨hcM, hfM, hzM⟩ := hq)); (try (have hq := after hN; obtain ⟨hcN, hfN, hzN⟩ := hq)); have hs := hb.size; (try simp at hz); (try simp at hs)
  go_wp2_with fail
  refine bodyPost_ret (v := .tuple #[.int .u64 (x / 18446744073709551616), .int .u64 (x % 18446744073709551616), .bool false]) (by simp only [results, Try.results80]; go_simp) rfl ⟨rfl, Below.next1 (Below.refl _ _) (Nat.le_refl _) hb⟩
set_option maxRecDepth 100000 in
set_option maxHeartbeats 2000000 in
/-- Of a number that is not negative by one of 64 bits, where the product fits. -/
theorem scale_pos (x n : Int) (h1 : 0 ≤ x) (h2 : x < 170141183460469231731687303715884105728) (n1 : 0 ≤ n) (n2 : n ≤ 9223372036854775807) (hp : x * n < 170141183460469231731687303715884105728) (w : World) : Calls Try.prog 49 #[.agg #[.int .i64 (x / 18446744073709551616), .int .u64 (x % 18446744073709551616)], .int .i64 n] w fun e w' => e = .returned (.tuple #[.agg #[.int .i64 (x * n / 18446744073709551616), .int .u64 (x * n % 18446744073709551616)], .bool true]) ∧ Below w.heap.size w w' := by
  have hs := size_pos x h1 h2
  have hw := word_any n (by omega) n2
  rw [Int.natAbs_of_nonneg n1, decide_eq_false (show ¬n < 0 by omega)] at hw
  have hm := made_pos (x * n) (Int.mul_nonneg h1 n1) (by omega)
  rw [show (if x * n < 170141183460469231731687303715884105728 then (.tuple #[.agg #[.int .i64 (x * n / 18446744073709551616), .int .u64 (x * n % 18446744073709551616)], .bool true] : Value) else .tuple #[.agg #[.int .i64 0, .int .u64 0], .bool false]) = .tuple #[.agg #[.int .i64 (x * n / 18446744073709551616), .int .u64 (x * n % 18446744073709551616)], .bool true] from if_pos hp] at hm
  have hx : x * n = (x / 18446744073709551616 * n) * 18446744073709551616 + x % 18446744073709551616 * n := by
    have h := Int.mul_ediv_add_emod x 18446744073709551616
    have h' : x = x / 18446744073709551616 * 18446744073709551616 + x % 18446744073709551616 := by omega
    have : x * n = (x / 18446744073709551616 * 18446744073709551616 + x % 18446744073709551616) * n := by rw [← h']
    rw [this]
    grind
  have p0 := mul_bd (A := 18446744073709551615) (B := 9223372036854775807) (a := x % 18446744073709551616) (b := n) (by omega) (by omega) (by omega) (by omega)
  have p0' : 0 ≤ x % 18446744073709551616 * n := Int.mul_nonneg (by omega) n1
  have p1' : 0 ≤ x / 18446744073709551616 * n := Int.mul_nonneg (by omega) n1
  have mm : ∀ w, Calls Try.prog 71 #[.int .u64 (x % 18446744073709551616), .int .u64 n] w fun e w' => e = .returned (.tuple #[.int .u64 (x % 18446744073709551616 * n / 18446744073709551616), .int .u64 (x % 18446744073709551616 * n % 18446744073709551616)]) ∧ w = w' := fun w => mul64 _ _ (by omega) (by omega) n1 (by omega) w
  have mn : ∀ w, Calls Try.prog 71 #[.int .u64 (x / 18446744073709551616), .int .u64 n] w fun e w' => e = .returned (.tuple #[.int .u64 (x / 18446744073709551616 * n / 18446744073709551616), .int .u64 (x / 18446744073709551616 * n % 18446744073709551616)]) ∧ w = w' := fun w => mul64 _ _ (by omega) (by omega) n1 (by omega) w
  generalize x / 18446744073709551616 * n = P1 at *
  generalize x % 18446744073709551616 * n = P0 at *
  generalize x * n = m at *
  have e1 : P1 / 18446744073709551616 = 0 := by omega
  have e2 : P1 % 18446744073709551616 = P1 := by omega
  have e5 : P0 % 18446744073709551616 = m % 18446744073709551616 := by omega
  rw [e5] at mm
  rw [e1, e2] at mn
  have k1 := add64_0 P1 (P0 / 18446744073709551616) p1' (by omega) (by omega) (by omega)
  rw [show (P1 + P0 / 18446744073709551616) % 18446744073709551616 = m / 18446744073709551616 by omega, show (P1 + P0 / 18446744073709551616) / 18446744073709551616 = 0 by omega] at k1
  have HS := Lib.hid hs
  have HW := Lib.hid hw
  have K1 := Lib.hid k1
  have HM := Lib.hid hm
  have M0 := Lib.hid mm
  have M1 := Lib.hid mn
  clear hs hw k1 hm mm mn p0 hx e1 e2 e5
  generalize hX0 : x / 18446744073709551616 = X1 at *
  generalize hX1 : x % 18446744073709551616 = X0 at *
  clear hX0 hX1
  go_enter Try.func49, Try.ntmps49
  go_wp2_with (first
    | simp only [K1.out]
    | (go_at_call 80; refine (HS.out _).mono ?_; rintro e v1 ⟨rfl, hv1⟩; have hK1 : Below w.heap.size w v1 := Below.trans (by repeat (first | exact Below.refl _ _ | refine Below.alloc ?_ (by first | omega | (simp; omega) | simp) _)) (hv1.mono (by first | (simp; done) | (simp; omega))); have hR := heap_old hv1 (b := w.heap.size + 1) (o := .cells #[.int .i64 0, .int .u64 0] 65) (by repeat (first | with_reducible refine heap_new _ _ (by first | omega | (simp; done) | (simp; omega)) | with_reducible apply heap_alloc)))
    | (go_at_call 70; refine (HW.out _).mono ?_; rintro e w' ⟨rfl, rfl⟩)
    | (go_at_call_of 71 (X0); refine (M0.out _).mono ?_; rintro e w' ⟨rfl, rfl⟩)
    | (go_at_call_of 71 (X1); refine (M1.out _).mono ?_; rintro e w' ⟨rfl, rfl⟩)
    | (go_at_call 72; refine (HM.out _).mono ?_; rintro e v2 ⟨rfl, hv2⟩; have hq1 := hv1.size; simp at hq1; have hK2 := Below.next hK1 (Nat.le_refl _) hv2; replace hR := heap_old hv2 hR; have r0 := cell_heap (o := 0) hR rfl; have r1 := cell_heap (o := 1) hR rfl; have rf := frozen_heap (o := 0) hR; have rg := frozen_heap (o := 1) hR))
  refine bodyPost_ret (v := .tuple #[.agg #[.int .i64 (m / 18446744073709551616), .int .u64 (m % 18446744073709551616)], .bool true]) (by simp only [results, Try.results49]; go_simp) rfl ⟨rfl, (by repeat (first | with_reducible exact Below.refl _ _ | with_reducible assumption | with_reducible refine Below.drew ?_ | with_reducible refine Below.setCell ?_ (by first | omega | (simp; omega) | simp) _ | with_reducible refine Below.alloc ?_ (by first | omega | (simp; omega) | simp) _ | with_reducible refine Below.trans ?_ (Below.mono (by with_reducible assumption) (by first | omega | (simp; omega) | simp))))⟩
end Go.Proofs.Ytcppgigndpepnaa
