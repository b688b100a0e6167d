/-
  Contracts of wide.made and wide.Mul.
  Conditions: none.
-/
import Derived.Test.YtcppgigndpepnaaWide
import Derived.Laws.BitsAllLaws
import Derived.Deep.RegionWith
namespace Go.Proofs.Ytcppgigndpepnaa
open Go.RowKit
theorem mul64 (x y : Int) (hx : 0 ≤ x) (hx2 : x < 18446744073709551616) (hy : 0 ≤ y) (hy2 : y < 18446744073709551616) (w : World) : Calls Try.prog 71 #[.int .u64 x, .int .u64 y] w fun e w' => e = .returned (.tuple #[.int .u64 (x * y / 18446744073709551616), .int .u64 (x * y % 18446744073709551616)]) ∧ w = w' := by
  obtain ⟨x, rfl⟩ := Int.eq_ofNat_of_zero_le hx
  obtain ⟨y, rfl⟩ := Int.eq_ofNat_of_zero_le hy
  refine (Any.bits_Mul64 laysM x y (by omega) (by omega) w).mono ?_
  rintro e w' ⟨rfl, rfl⟩
  exact ⟨by simp, rfl⟩
set_option maxRecDepth 100000 in
set_option maxHeartbeats 2000000 in
theorem made_pos (m : Int) (h1 : 0 ≤ m) (h2 : m < 340282366920938463463374607431768211456) (w : World) : Calls Try.prog 72 #[.int .u64 (m / 18446744073709551616), .int .u64 (m % 18446744073709551616), .bool false] w fun e w' =>
    e = .returned (if m < 170141183460469231731687303715884105728 then .tuple #[.agg #[.int .i64 (m / 18446744073709551616), .int .u64 (m % 18446744073709551616)], .bool true] else .tuple #[.agg #[.int .i64 0, .int .u64 0], .bool false]) ∧ Below w.heap.size w w' := by
  go_enter Try.func72, Try.ntmps72
  go_wp2_with fail
  · refine bodyPost_ret (v := .tuple #[.agg #[.int .i64 0, .int .u64 0], .bool false]) (by simp only [results, Try.results72]; go_simp) rfl ⟨rfl, (by repeat (first | with_reducible exact Below.refl _ _ | with_reducible assumption | with_reducible refine Below.drew ?_ | with_reducible refine Below.setCell ?_ (by first | omega | (simp; omega) | simp) _ | with_reducible refine Below.alloc ?_ (by first | omega | (simp; omega) | simp) _ | with_reducible refine Below.trans ?_ (Below.mono (by with_reducible assumption) (by first | omega | (simp; omega) | simp))))⟩
  · refine bodyPost_ret (v := .tuple #[.agg #[.int .i64 (m / 18446744073709551616), .int .u64 (m % 18446744073709551616)], .bool true]) (by simp only [results, Try.results72]; go_simp) rfl ⟨rfl, (by repeat (first | with_reducible exact Below.refl _ _ | with_reducible assumption | with_reducible refine Below.drew ?_ | with_reducible refine Below.setCell ?_ (by first | omega | (simp; omega) | simp) _ | with_reducible refine Below.alloc ?_ (by first | omega | (simp; omega) | simp) _ | with_reducible refine Below.trans ?_ (Below.mono (by with_reducible assumption) (by first | omega | (simp; omega) | simp))))⟩
theorem not64 (x : Nat) (h : x < 18446744073709551616) : 18446744073709551615 ^^^ x = 18446744073709551615 - x := by
  have h1 := BitVec.toNat_not (x := BitVec.ofNat 64 x)
  have h2 : (BitVec.allOnes 64 ^^^ BitVec.ofNat 64 x) = ~~~(BitVec.ofNat 64 x) := BitVec.not_def.symm
  rw [← h2, BitVec.toNat_xor, BitVec.toNat_allOnes, BitVec.toNat_ofNat, Nat.mod_eq_of_lt (by simpa using h)] at h1
  exact h1
theorem not_u64 {x : Int} (h1 : 0 ≤ x) (h2 : x < 18446744073709551616) : bits .xor .u64 IntKind.u64.max x = 18446744073709551615 - x := by
  obtain ⟨x, rfl⟩ := Int.eq_ofNat_of_zero_le h1
  have h := u64_xor_nat 18446744073709551615 x (by omega) (by omega)
  rw [not64 x (by omega)] at h
  have e : IntKind.u64.max = ((18446744073709551615 : Nat) : Int) := by decide
  rw [e, h]
  omega
set_option maxRecDepth 100000 in
set_option maxHeartbeats 2000000 in
theorem made_over (m : Int) (h1 : 170141183460469231731687303715884105728 < m) (h2 : m < 340282366920938463463374607431768211456) (w : World) : Calls Try.prog 72 #[.int .u64 (m / 18446744073709551616), .int .u64 (m % 18446744073709551616), .bool true] w fun e w' => e = .returned (.tuple #[.agg #[.int .i64 0, .int .u64 0], .bool false]) ∧ Below w.heap.size w w' := by
  have g1 : 9223372036854775808 ≤ m / 18446744073709551616 := by omega
  have g2 : m / 18446744073709551616 = 9223372036854775808 → 0 < m % 18446744073709551616 := by omega
  rcases Int.lt_or_eq_of_le g1 with g3 | g3
  · clear g2
    go_enter Try.func72, Try.ntmps72
    go_wp2_with fail
    refine bodyPost_ret (v := .tuple #[.agg #[.int .i64 0, .int .u64 0], .bool false]) (by simp only [results, Try.results72]; go_simp) rfl ⟨rfl, (by repeat (first | with_reducible exact Below.refl _ _ | with_reducible assumption | with_reducible refine Below.drew ?_ | with_reducible refine Below.setCell ?_ (by first | omega | (simp; omega) | simp) _ | with_reducible refine Below.alloc ?_ (by first | omega | (simp; omega) | simp) _ | with_reducible refine Below.trans ?_ (Below.mono (by with_reducible assumption) (by first | omega | (simp; omega) | simp))))⟩
  · have g4 := g2 g3.symm
    rw [← g3]
    clear g2 g1 g3
    go_enter Try.func72, Try.ntmps72
    go_wp2_with fail
    refine bodyPost_ret (v := .tuple #[.agg #[.int .i64 0, .int .u64 0], .bool false]) (by simp only [results, Try.results72]; go_simp) rfl ⟨rfl, (by repeat (first | with_reducible exact Below.refl _ _ | with_reducible assumption | with_reducible refine Below.drew ?_ | with_reducible refine Below.setCell ?_ (by first | omega | (simp; omega) | simp) _ | with_reducible refine Below.alloc ?_ (by first | omega | (simp; omega) | simp) _ | with_reducible refine Below.trans ?_ (Below.mono (by with_reducible assumption) (by first | omega | (simp; omega) | simp))))⟩
set_option maxRecDepth 100000 in
set_option maxHeartbeats 2000000 in
theorem made_edge (w : World) : Calls Try.prog 72 #[.int .u64 (170141183460469231731687303715884105728 / 18446744073709551616), .int .u64 (170141183460469231731687303715884105728 % 18446744073709551616), .bool true] w fun e w' =>
    e = .returned (.tuple #[.agg #[.int .i64 (-170141183460469231731687303715884105728 / 18446744073709551616), .int .u64 (-170141183460469231731687303715884105728 % 18446744073709551616)], .bool true]) ∧ Below w.heap.size w w' := by
  rw [show (170141183460469231731687303715884105728 / 18446744073709551616 : Int) = 9223372036854775808 by decide, show (170141183460469231731687303715884105728 % 18446744073709551616 : Int) = 0 by decide, show (-170141183460469231731687303715884105728 / 18446744073709551616 : Int) = -9223372036854775808 by decide, show (-170141183460469231731687303715884105728 % 18446744073709551616 : Int) = 0 by decide]
  have n1 := not_u64 (x := 0) (by omega) (by omega)
  have n2 := not_u64 (x := 9223372036854775808) (by omega) (by omega)
  have k1 := add64_0 18446744073709551615 1 (by omega) (by omega) (by omega) (by omega)
  have k2 := add64 9223372036854775807 0 1 (by omega) (by omega) (by omega) (by omega) (by omega) (by omega)
  have e2 : IntKind.i64.wrap 9223372036854775808 = -9223372036854775808 := by rw [wrap_i64]; decide
  simp only [Int.reduceAdd, Int.reduceMod, Int.reduceDiv, Int.reduceSub] at n1 n2 k1 k2
  have K1 := Lib.hid k1
  have K2 := Lib.hid k2
  clear k1 k2
  go_enter Try.func72, Try.ntmps72
  go_wp2_with (first | simp only [K1.out] | simp only [K2.out])
  refine bodyPost_ret (v := .tuple #[.agg #[.int .i64 (-9223372036854775808), .int .u64 0], .bool true]) (by simp only [results, Try.results72]; go_simp) rfl ⟨rfl, (by repeat (first | with_reducible exact Below.refl _ _ | with_reducible assumption | with_reducible refine Below.drew ?_ | with_reducible refine Below.setCell ?_ (by first | omega | (simp; omega) | simp) _ | with_reducible refine Below.alloc ?_ (by first | omega | (simp; omega) | simp) _ | with_reducible refine Below.trans ?_ (Below.mono (by with_reducible assumption) (by first | omega | (simp; omega) | simp))))⟩
set_option maxRecDepth 100000 in
set_option maxHeartbeats 2000000 in
theorem made_neg (m : Int) (h1 : 0 ≤ m) (h2 : m ≤ 170141183460469231731687303715884105728) (w : World) : Calls Try.prog 72 #[.int .u64 (m / 18446744073709551616), .int .u64 (m % 18446744073709551616), .bool true] w fun e w' =>
    e = .returned (.tuple #[.agg #[.int .i64 (-m / 18446744073709551616), .int .u64 (-m % 18446744073709551616)], .bool true]) ∧ Below w.heap.size w w' := by
  have n1 := not_u64 (x := m % 18446744073709551616) (by omega) (by omega)
  have n2 := not_u64 (x := m / 18446744073709551616) (by omega) (by omega)
  have k1 := add64_0 (18446744073709551615 - m % 18446744073709551616) 1 (by omega) (by omega) (by omega) (by omega)
  have k2 := add64 (18446744073709551615 - m / 18446744073709551616) 0 ((18446744073709551615 - m % 18446744073709551616 + 1) / 18446744073709551616) (by omega) (by omega) (by omega) (by omega) (by omega) (by omega)
  rw [Int.add_zero] at k2
  have e1 : (18446744073709551615 - m % 18446744073709551616 + 1) % 18446744073709551616 = -m % 18446744073709551616 := by omega
  have e2 : IntKind.i64.wrap ((18446744073709551615 - m / 18446744073709551616 + (18446744073709551615 - m % 18446744073709551616 + 1) / 18446744073709551616) % 18446744073709551616) = -m / 18446744073709551616 := by rw [wrap_i64]; omega
  have K1 := Lib.hid k1
  have K2 := Lib.hid k2
  clear k1 k2
  rcases Int.lt_or_eq_of_le h2 with g3 | g3
  · have g4 : m / 18446744073709551616 < 9223372036854775808 := by omega
    go_enter Try.func72, Try.ntmps72
    go_wp2_with (first | simp only [K1.out] | simp only [K2.out])
    refine bodyPost_ret (v := .tuple #[.agg #[.int .i64 (-m / 18446744073709551616), .int .u64 (-m % 18446744073709551616)], .bool true]) (by simp only [results, Try.results72]; go_simp) rfl ⟨rfl, (by repeat (first | with_reducible exact Below.refl _ _ | with_reducible assumption | with_reducible refine Below.drew ?_ | with_reducible refine Below.setCell ?_ (by first | omega | (simp; omega) | simp) _ | with_reducible refine Below.alloc ?_ (by first | omega | (simp; omega) | simp) _ | with_reducible refine Below.trans ?_ (Below.mono (by with_reducible assumption) (by first | omega | (simp; omega) | simp))))⟩
  · subst g3
    exact made_edge w
/-- A product of two numbers of 64 bits. -/
theorem abs_mul (a b : Int) : ((a.natAbs : Nat) : Int) * ((b.natAbs : Nat) : Int) = if (decide (a < 0) != decide (b < 0)) = true then -(a * b) else a * b := by
  rcases Int.lt_or_le a 0 with ha | ha <;> rcases Int.lt_or_le b 0 with hb | hb
  · rw [if_neg (by simp [ha, hb]), Int.ofNat_natAbs_of_nonpos (by omega), Int.ofNat_natAbs_of_nonpos (by omega), Int.neg_mul_neg]
  · rw [if_pos (by simp [ha]; omega), Int.ofNat_natAbs_of_nonpos (by omega), Int.natAbs_of_nonneg hb, Int.neg_mul]
  · rw [if_pos (by simp [hb]; omega), Int.natAbs_of_nonneg ha, Int.ofNat_natAbs_of_nonpos (by omega), Int.mul_neg]
  · rw [if_neg (by simp; omega), Int.natAbs_of_nonneg ha, Int.natAbs_of_nonneg hb]
set_option maxRecDepth 100000 in
set_option maxHeartbeats 2000000 in
theorem mul_any (a b : Int) (ha : -9223372036854775808 ≤ a) (ha2 : a ≤ 9223372036854775807) (hb : -9223372036854775808 ≤ b) (hb2 : b ≤ 9223372036854775807) (w : World) : Calls Try.prog 42 #[.int .i64 a, .int .i64 b] w fun e w' =>
    e = .returned (.agg #[.int .i64 (a * b / 18446744073709551616), .int .u64 (a * b % 18446744073709551616)]) ∧ Below w.heap.size w w' := by
  have hm := abs_mul a b
  have b1 := mul_bd (A := 9223372036854775808) (B := 9223372036854775808) (a := (a.natAbs : Int)) (b := (b.natAbs : Int)) (by omega) (by omega) (by omega) (by omega)
  have b0 : 0 ≤ (a.natAbs : Int) * (b.natAbs : Int) := Int.mul_nonneg (by omega) (by omega)
  have w1 := word_any a ha ha2
  have w2 := word_any b hb hb2
  have x0 : (0 : Int) ≤ (a.natAbs : Int) := by omega
  have x1 : (a.natAbs : Int) < 18446744073709551616 := by omega
  have y0 : (0 : Int) ≤ (b.natAbs : Int) := by omega
  have y1 : (b.natAbs : Int) < 18446744073709551616 := by omega
  have hmade : ∀ w, Calls Try.prog 72 #[.int .u64 ((a.natAbs : Int) * (b.natAbs : Int) / 18446744073709551616), .int .u64 ((a.natAbs : Int) * (b.natAbs : Int) % 18446744073709551616), .bool (decide (a < 0) != decide (b < 0))] w fun e w' => e = .returned (.tuple #[.agg #[.int .i64 (a * b / 18446744073709551616), .int .u64 (a * b % 18446744073709551616)], .bool true]) ∧ Below w.heap.size w w' := by
    intro w
    rw [hm] at b0 b1 ⊢
    cases hs : (decide (a < 0) != decide (b < 0))
    · rw [hs] at b0 b1
      simp only [Bool.false_eq_true, if_false] at b0 b1 ⊢
      have := made_pos (a * b) (by omega) (by omega) w
      rwa [if_pos (by omega)] at this
    · rw [hs] at b0 b1
      simp only [if_true] at b0 b1 ⊢
      have := made_neg (-(a * b)) (by omega) (by omega) w
      rwa [Int.neg_neg] at this
  have W1 := Lib.hid w1
  have W2 := Lib.hid w2
  have HM := Lib.hid hmade
  clear w1 w2 hmade hm b1 b0
  generalize (a.natAbs : Int) = A at *
  generalize (b.natAbs : Int) = B at *
  generalize decide (a < 0) = p at *
  generalize decide (b < 0) = q at *
  go_enter Try.func42, Try.ntmps42
  go_wp2_with (first | (go_at_call_of 70 (a); refine (W1.out _).mono ?_; rintro e w' ⟨rfl, rfl⟩) | (go_at_call_of 70 (b); refine (W2.out _).mono ?_; rintro e w' ⟨rfl, rfl⟩) | (go_at_call 71; refine (mul64 _ _ x0 x1 y0 y1 _).mono ?_; rintro e w' ⟨rfl, rfl⟩) | (go_at_call 72; refine (HM.out _).mono ?_; rintro e w1 ⟨rfl, hb1⟩; have hs1 := hb1.size; simp at hs1; have hK : Below w.heap.size w w1 := Below.trans (by repeat (first | exact Below.refl _ _ | refine Below.alloc ?_ (by first | omega | (simp; omega) | simp) _)) (hb1.mono (by first | (simp; done) | (simp; omega))); have hR := heap_old hb1 (b := w.heap.size) (o := .cells #[.int .i64 0, .int .u64 0] 65) (by repeat (first | with_reducible refine heap_new _ _ (by first | omega | (simp; done) | (simp; omega)) | with_reducible apply heap_alloc)); have r0 := cell_heap (o := 0) hR rfl; have r1 := cell_heap (o := 1) hR rfl; have f0 := frozen_heap (o := 0) hR; have f1 := frozen_heap (o := 1) hR))
  refine bodyPost_ret (v := .agg #[.int .i64 (a * b / 18446744073709551616), .int .u64 (a * b % 18446744073709551616)]) (by simp only [results, Try.results42]; go_simp) rfl ⟨rfl, (by repeat (first | with_reducible exact Below.refl _ _ | with_reducible assumption | with_reducible refine Below.drew ?_ | with_reducible refine Below.setCell ?_ (by first | omega | (simp; omega) | simp) _ | with_reducible refine Below.alloc ?_ (by first | omega | (simp; omega) | simp) _ | with_reducible refine Below.trans ?_ (Below.mono (by with_reducible assumption) (by first | omega | (simp; omega) | simp))))⟩
end Go.Proofs.Ytcppgigndpepnaa
