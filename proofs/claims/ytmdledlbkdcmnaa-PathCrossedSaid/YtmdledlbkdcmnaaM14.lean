/-
  Contracts and laws, merged: Wide WideAdd WideMul Accept WideSub.
  Conditions: none.
-/
import Derived.Test.YtmdledlbkdcmnaaM1
import Derived.Test.YtmdledlbkdcmnaaM5
import Derived.Shelf.Spec.BitsCarry
import Derived.Shelf.Bits.Mul64
import Derived.Laws.BitsAllLaws
import Derived.Deep.RegionWith
set_option linter.unusedSimpArgs false
set_option linter.unusedVariables false
/-
  Contracts of the wide numbers: Of, Add, word, made, Mul.
  Conditions: none.
-/
namespace Go.Proofs.Ytmdledlbkdcmnaa
open Go.RowKit
theorem add64 (x y c : Int) (hx : 0 ≤ x) (hx2 : x < 18446744073709551616) (hy : 0 ≤ y) (hy2 : y < 18446744073709551616) (hc0 : 0 ≤ c) (hc : c ≤ 1) (w : World) : (callFunc 84 #[.int .u64 x, .int .u64 y, .int .u64 c]).run Try.prog w =
    .ok (.value (.tuple #[.int .u64 ((x + y + c) % 18446744073709551616), .int .u64 ((x + y + c) / 18446744073709551616)])) w := by
  obtain ⟨x, rfl⟩ := Int.eq_ofNat_of_zero_le hx
  obtain ⟨y, rfl⟩ := Int.eq_ofNat_of_zero_le hy
  obtain ⟨c, rfl⟩ := Int.eq_ofNat_of_zero_le hc0
  rw [run_callFunc_extern Try.func84 (by kernel_rfl) (by kernel_rfl) (by kernel_rfl) (e := add64Entry) (by kernel_rfl), run_add64 x y c (by omega) (by omega) (by omega) (by omega)]
  simp only [Result.andThen]
theorem add64_0 (x y : Int) (hx : 0 ≤ x) (hx2 : x < 18446744073709551616) (hy : 0 ≤ y) (hy2 : y < 18446744073709551616) (w : World) : (callFunc 84 #[.int .u64 x, .int .u64 y, .int .u64 0]).run Try.prog w =
    .ok (.value (.tuple #[.int .u64 ((x + y) % 18446744073709551616), .int .u64 ((x + y) / 18446744073709551616)])) w := by
  simpa using add64 x y 0 hx hx2 hy hy2 (Int.le_refl 0) (by decide) w
theorem of_wide (n : Int) (h1 : -9223372036854775808 ≤ n) (h2 : n ≤ 9223372036854775807) (w : World) : Calls Try.prog 119 #[.int .i64 n] w fun e w' => e = .returned (.agg #[.int .i64 (n / 18446744073709551616), .int .u64 (n % 18446744073709551616)]) ∧ Below w.heap.size w w' := by
  have e1 : n / 9223372036854775808 = n / 18446744073709551616 := by omega
  go_enter Try.func119, Try.ntmps119
  go_wp2_with fail
  refine bodyPost_ret (v := .agg #[.int .i64 (n / 18446744073709551616), .int .u64 (n % 18446744073709551616)]) (by simp only [results, Try.results119]; go_simp; simp [wrap_u64]) rfl ⟨rfl, (by repeat (first | with_reducible exact Below.refl _ _ | with_reducible assumption | with_reducible refine Below.drew ?_ | with_reducible refine Below.setCell ?_ (by first | omega | (simp; omega) | simp) _ | with_reducible refine Below.alloc ?_ (by first | omega | (simp; omega) | simp) _ | with_reducible refine Below.trans ?_ (Below.mono (by with_reducible assumption) (by first | omega | (simp; omega) | simp))))⟩
theorem ret_word {a b : Int} {p q : Bool} (h : a = b) (hp : p = q) : Ending.returned (.tuple #[.int .u64 a, .bool p]) = .returned (.tuple #[.int .u64 b, .bool q]) := by rw [h, hp]
theorem word_any (n : Int) (h1 : -9223372036854775808 ≤ n) (h2 : n ≤ 9223372036854775807) (w : World) : Calls Try.prog 81 #[.int .i64 n] w fun e w' => e = .returned (.tuple #[.int .u64 (n.natAbs : Nat), .bool (decide (n < 0))]) ∧ w = w' := by
  rcases Int.lt_or_le n 0 with h | h
  · go_enter Try.func81, Try.ntmps81
    go_wp2_with fail
    go_ret2
    refine ⟨ret_word ?_ (by simp [h]), rfl⟩
    rw [wrap_u64, wrap_u64]
    omega
  · go_enter Try.func81, Try.ntmps81
    go_wp2_with fail
    go_ret2
    exact ⟨ret_word (by omega) (by simp; omega), rfl⟩
/-- bits.Mul64's numbers in the library's text. -/
def renM : Go.Shelf.Ren := ⟨fun _ => 82, fun n => if n = 46 then 146 else 73, fun n => n⟩
set_option maxRecDepth 100000 in
theorem laysM : Lays.n264 Try.prog renM := by
  constructor
  all_goals first | kernel_rfl | (intro w; rfl)
end Go.Proofs.Ytmdledlbkdcmnaa

/-
  Contract of wide.Add.
  Conditions: none.
-/
namespace Go.Proofs.Ytmdledlbkdcmnaa
open Go.RowKit
set_option maxRecDepth 100000 in
set_option maxHeartbeats 2000000 in
/-- The sum by its parts, where the signs of the three are given. -/
theorem add_parts (a al b bl A B h : Int) (ha : -9223372036854775808 ≤ a) (ha2 : a ≤ 9223372036854775807) (hb : -9223372036854775808 ≤ b) (hb2 : b ≤ 9223372036854775807) (l1 : 0 ≤ al) (l2 : al < 18446744073709551616) (m1 : 0 ≤ bl) (m2 : bl < 18446744073709551616)
    (hA : IntKind.u64.wrap a = A) (hB : IntKind.u64.wrap b = B) (hh : IntKind.i64.wrap ((A + B + (al + bl) / 18446744073709551616) % 18446744073709551616) = h) (w : World) :
    Calls Try.prog 42 #[.agg #[.int .i64 a, .int .u64 al], .agg #[.int .i64 b, .int .u64 bl]] w fun e w' => e = .returned (if (a < 0 ∧ b < 0 ∧ ¬h < 0) ∨ (¬a < 0 ∧ ¬b < 0 ∧ h < 0) then .tuple #[.agg #[.int .i64 0, .int .u64 0], .bool false] else .tuple #[.agg #[.int .i64 h, .int .u64 ((al + bl) % 18446744073709551616)], .bool true]) ∧ Below w.heap.size w w' := by
  have c0 : 0 ≤ (al + bl) / 18446744073709551616 := by omega
  have c1 : (al + bl) / 18446744073709551616 ≤ 1 := by omega
  have x0 : 0 ≤ A := by rw [← hA, wrap_u64]; omega
  have x1 : A < 18446744073709551616 := by rw [← hA, wrap_u64]; omega
  have y0 : 0 ≤ B := by rw [← hB, wrap_u64]; omega
  have y1 : B < 18446744073709551616 := by rw [← hB, wrap_u64]; omega
  have k1 := add64_0 al bl l1 l2 m1 m2
  have k2 := add64 A B _ x0 x1 y0 y1 c0 c1
  have K1 := Lib.hid k1
  have K2 := Lib.hid k2
  clear k1 k2 x0 x1 y0 y1 c0 c1
  have hl := @Later.cell
  by_cases ga : a < 0
  · by_cases gb : b < 0
    · by_cases gh : h < 0
      · rw [if_neg (by omega)]
        go_enter Try.func42, Try.ntmps42
        go_wp2_with (first | simp only [K1.out] | simp only [K2.out])
        refine bodyPost_ret (v := .tuple #[.agg #[.int .i64 h, .int .u64 ((al + bl) % 18446744073709551616)], .bool true]) (by simp only [results, Try.results42]; go_simp) rfl ⟨rfl, (by repeat (first | with_reducible exact Below.refl _ _ | with_reducible assumption | with_reducible refine Below.drew ?_ | with_reducible refine Below.setCell ?_ (by first | omega | (simp; omega) | simp) _ | with_reducible refine Below.alloc ?_ (by first | omega | (simp; omega) | simp) _ | with_reducible refine Below.trans ?_ (Below.mono (by with_reducible assumption) (by first | omega | (simp; omega) | simp))))⟩
      · rw [if_pos (by omega)]
        go_enter Try.func42, Try.ntmps42
        go_wp2_with (first | simp only [K1.out] | simp only [K2.out])
        refine bodyPost_ret (v := .tuple #[.agg #[.int .i64 0, .int .u64 0], .bool false]) (by simp only [results, Try.results42]; go_simp) rfl ⟨rfl, (by repeat (first | with_reducible exact Below.refl _ _ | with_reducible assumption | with_reducible refine Below.drew ?_ | with_reducible refine Below.setCell ?_ (by first | omega | (simp; omega) | simp) _ | with_reducible refine Below.alloc ?_ (by first | omega | (simp; omega) | simp) _ | with_reducible refine Below.trans ?_ (Below.mono (by with_reducible assumption) (by first | omega | (simp; omega) | simp))))⟩
    · rw [if_neg (by omega)]
      go_enter Try.func42, Try.ntmps42
      go_wp2_with (first | simp only [K1.out] | simp only [K2.out])
      refine bodyPost_ret (v := .tuple #[.agg #[.int .i64 h, .int .u64 ((al + bl) % 18446744073709551616)], .bool true]) (by simp only [results, Try.results42]; go_simp) rfl ⟨rfl, (by repeat (first | with_reducible exact Below.refl _ _ | with_reducible assumption | with_reducible refine Below.drew ?_ | with_reducible refine Below.setCell ?_ (by first | omega | (simp; omega) | simp) _ | with_reducible refine Below.alloc ?_ (by first | omega | (simp; omega) | simp) _ | with_reducible refine Below.trans ?_ (Below.mono (by with_reducible assumption) (by first | omega | (simp; omega) | simp))))⟩
  · by_cases gb : b < 0
    · rw [if_neg (by omega)]
      go_enter Try.func42, Try.ntmps42
      go_wp2_with (first | simp only [K1.out] | simp only [K2.out])
      refine bodyPost_ret (v := .tuple #[.agg #[.int .i64 h, .int .u64 ((al + bl) % 18446744073709551616)], .bool true]) (by simp only [results, Try.results42]; go_simp) rfl ⟨rfl, (by repeat (first | with_reducible exact Below.refl _ _ | with_reducible assumption | with_reducible refine Below.drew ?_ | with_reducible refine Below.setCell ?_ (by first | omega | (simp; omega) | simp) _ | with_reducible refine Below.alloc ?_ (by first | omega | (simp; omega) | simp) _ | with_reducible refine Below.trans ?_ (Below.mono (by with_reducible assumption) (by first | omega | (simp; omega) | simp))))⟩
    · by_cases gh : h < 0
      · rw [if_pos (by omega)]
        go_enter Try.func42, Try.ntmps42
        go_wp2_with (first | simp only [K1.out] | simp only [K2.out])
        refine bodyPost_ret (v := .tuple #[.agg #[.int .i64 0, .int .u64 0], .bool false]) (by simp only [results, Try.results42]; go_simp) rfl ⟨rfl, (by repeat (first | with_reducible exact Below.refl _ _ | with_reducible assumption | with_reducible refine Below.drew ?_ | with_reducible refine Below.setCell ?_ (by first | omega | (simp; omega) | simp) _ | with_reducible refine Below.alloc ?_ (by first | omega | (simp; omega) | simp) _ | with_reducible refine Below.trans ?_ (Below.mono (by with_reducible assumption) (by first | omega | (simp; omega) | simp))))⟩
      · rw [if_neg (by omega)]
        go_enter Try.func42, Try.ntmps42
        go_wp2_with (first | simp only [K1.out] | simp only [K2.out])
        refine bodyPost_ret (v := .tuple #[.agg #[.int .i64 h, .int .u64 ((al + bl) % 18446744073709551616)], .bool true]) (by simp only [results, Try.results42]; go_simp) rfl ⟨rfl, (by repeat (first | with_reducible exact Below.refl _ _ | with_reducible assumption | with_reducible refine Below.drew ?_ | with_reducible refine Below.setCell ?_ (by first | omega | (simp; omega) | simp) _ | with_reducible refine Below.alloc ?_ (by first | omega | (simp; omega) | simp) _ | with_reducible refine Below.trans ?_ (Below.mono (by with_reducible assumption) (by first | omega | (simp; omega) | simp))))⟩
end Go.Proofs.Ytmdledlbkdcmnaa

/-
  Contracts of wide.made and wide.Mul.
  Conditions: none.
-/
namespace Go.Proofs.Ytmdledlbkdcmnaa
open Go.RowKit
theorem mul64 (x y : Int) (hx : 0 ≤ x) (hx2 : x < 18446744073709551616) (hy : 0 ≤ y) (hy2 : y < 18446744073709551616) (w : World) : Calls Try.prog 82 #[.int .u64 x, .int .u64 y] w fun e w' => e = .returned (.tuple #[.int .u64 (x * y / 18446744073709551616), .int .u64 (x * y % 18446744073709551616)]) ∧ w = w' := by
  obtain ⟨x, rfl⟩ := Int.eq_ofNat_of_zero_le hx
  obtain ⟨y, rfl⟩ := Int.eq_ofNat_of_zero_le hy
  refine (Any.bits_Mul64 laysM x y (by omega) (by omega) w).mono ?_
  rintro e w' ⟨rfl, rfl⟩
  exact ⟨by simp, rfl⟩
set_option maxRecDepth 100000 in
set_option maxHeartbeats 2000000 in
theorem made_pos (m : Int) (h1 : 0 ≤ m) (h2 : m < 340282366920938463463374607431768211456) (w : World) : Calls Try.prog 83 #[.int .u64 (m / 18446744073709551616), .int .u64 (m % 18446744073709551616), .bool false] w fun e w' =>
    e = .returned (if m < 170141183460469231731687303715884105728 then .tuple #[.agg #[.int .i64 (m / 18446744073709551616), .int .u64 (m % 18446744073709551616)], .bool true] else .tuple #[.agg #[.int .i64 0, .int .u64 0], .bool false]) ∧ Below w.heap.size w w' := by
  go_enter Try.func83, Try.ntmps83
  go_wp2_with fail
  · refine bodyPost_ret (v := .tuple #[.agg #[.int .i64 0, .int .u64 0], .bool false]) (by simp only [results, Try.results83]; go_simp) rfl ⟨rfl, (by repeat (first | with_reducible exact Below.refl _ _ | with_reducible assumption | with_reducible refine Below.drew ?_ | with_reducible refine Below.setCell ?_ (by first | omega | (simp; omega) | simp) _ | with_reducible refine Below.alloc ?_ (by first | omega | (simp; omega) | simp) _ | with_reducible refine Below.trans ?_ (Below.mono (by with_reducible assumption) (by first | omega | (simp; omega) | simp))))⟩
  · refine bodyPost_ret (v := .tuple #[.agg #[.int .i64 (m / 18446744073709551616), .int .u64 (m % 18446744073709551616)], .bool true]) (by simp only [results, Try.results83]; go_simp) rfl ⟨rfl, (by repeat (first | with_reducible exact Below.refl _ _ | with_reducible assumption | with_reducible refine Below.drew ?_ | with_reducible refine Below.setCell ?_ (by first | omega | (simp; omega) | simp) _ | with_reducible refine Below.alloc ?_ (by first | omega | (simp; omega) | simp) _ | with_reducible refine Below.trans ?_ (Below.mono (by with_reducible assumption) (by first | omega | (simp; omega) | simp))))⟩
theorem not64 (x : Nat) (h : x < 18446744073709551616) : 18446744073709551615 ^^^ x = 18446744073709551615 - x := by
  have h1 := BitVec.toNat_not (x := BitVec.ofNat 64 x)
  have h2 : (BitVec.allOnes 64 ^^^ BitVec.ofNat 64 x) = ~~~(BitVec.ofNat 64 x) := BitVec.not_def.symm
  rw [← h2, BitVec.toNat_xor, BitVec.toNat_allOnes, BitVec.toNat_ofNat, Nat.mod_eq_of_lt (by simpa using h)] at h1
  exact h1
theorem not_u64 {x : Int} (h1 : 0 ≤ x) (h2 : x < 18446744073709551616) : bits .xor .u64 IntKind.u64.max x = 18446744073709551615 - x := by
  obtain ⟨x, rfl⟩ := Int.eq_ofNat_of_zero_le h1
  have h := u64_xor_nat 18446744073709551615 x (by omega) (by omega)
  rw [not64 x (by omega)] at h
  have e : IntKind.u64.max = ((18446744073709551615 : Nat) : Int) := by decide
  rw [e, h]
  omega
set_option maxRecDepth 100000 in
set_option maxHeartbeats 2000000 in
theorem made_over (m : Int) (h1 : 170141183460469231731687303715884105728 < m) (h2 : m < 340282366920938463463374607431768211456) (w : World) : Calls Try.prog 83 #[.int .u64 (m / 18446744073709551616), .int .u64 (m % 18446744073709551616), .bool true] w fun e w' => e = .returned (.tuple #[.agg #[.int .i64 0, .int .u64 0], .bool false]) ∧ Below w.heap.size w w' := by
  have g1 : 9223372036854775808 ≤ m / 18446744073709551616 := by omega
  have g2 : m / 18446744073709551616 = 9223372036854775808 → 0 < m % 18446744073709551616 := by omega
  rcases Int.lt_or_eq_of_le g1 with g3 | g3
  · clear g2
    go_enter Try.func83, Try.ntmps83
    go_wp2_with fail
    refine bodyPost_ret (v := .tuple #[.agg #[.int .i64 0, .int .u64 0], .bool false]) (by simp only [results, Try.results83]; go_simp) rfl ⟨rfl, (by repeat (first | with_reducible exact Below.refl _ _ | with_reducible assumption | with_reducible refine Below.drew ?_ | with_reducible refine Below.setCell ?_ (by first | omega | (simp; omega) | simp) _ | with_reducible refine Below.alloc ?_ (by first | omega | (simp; omega) | simp) _ | with_reducible refine Below.trans ?_ (Below.mono (by with_reducible assumption) (by first | omega | (simp; omega) | simp))))⟩
  · have g4 := g2 g3.symm
    rw [← g3]
    clear g2 g1 g3
    go_enter Try.func83, Try.ntmps83
    go_wp2_with fail
    refine bodyPost_ret (v := .tuple #[.agg #[.int .i64 0, .int .u64 0], .bool false]) (by simp only [results, Try.results83]; go_simp) rfl ⟨rfl, (by repeat (first | with_reducible exact Below.refl _ _ | with_reducible assumption | with_reducible refine Below.drew ?_ | with_reducible refine Below.setCell ?_ (by first | omega | (simp; omega) | simp) _ | with_reducible refine Below.alloc ?_ (by first | omega | (simp; omega) | simp) _ | with_reducible refine Below.trans ?_ (Below.mono (by with_reducible assumption) (by first | omega | (simp; omega) | simp))))⟩
set_option maxRecDepth 100000 in
set_option maxHeartbeats 2000000 in
theorem made_edge (w : World) : Calls Try.prog 83 #[.int .u64 (170141183460469231731687303715884105728 / 18446744073709551616), .int .u64 (170141183460469231731687303715884105728 % 18446744073709551616), .bool true] w fun e w' =>
    e = .returned (.tuple #[.agg #[.int .i64 (-170141183460469231731687303715884105728 / 18446744073709551616), .int .u64 (-170141183460469231731687303715884105728 % 18446744073709551616)], .bool true]) ∧ Below w.heap.size w w' := by
  rw [show (170141183460469231731687303715884105728 / 18446744073709551616 : Int) = 9223372036854775808 by decide, show (170141183460469231731687303715884105728 % 18446744073709551616 : Int) = 0 by decide, show (-170141183460469231731687303715884105728 / 18446744073709551616 : Int) = -9223372036854775808 by decide, show (-170141183460469231731687303715884105728 % 18446744073709551616 : Int) = 0 by decide]
  have n1 := not_u64 (x := 0) (by omega) (by omega)
  have n2 := not_u64 (x := 9223372036854775808) (by omega) (by omega)
  have k1 := add64_0 18446744073709551615 1 (by omega) (by omega) (by omega) (by omega)
  have k2 := add64 9223372036854775807 0 1 (by omega) (by omega) (by omega) (by omega) (by omega) (by omega)
  have e2 : IntKind.i64.wrap 9223372036854775808 = -9223372036854775808 := by rw [wrap_i64]; decide
  simp only [Int.reduceAdd, Int.reduceMod, Int.reduceDiv, Int.reduceSub] at n1 n2 k1 k2
  have K1 := Lib.hid k1
  have K2 := Lib.hid k2
  clear k1 k2
  go_enter Try.func83, Try.ntmps83
  go_wp2_with (first | simp only [K1.out] | simp only [K2.out])
  refine bodyPost_ret (v := .tuple #[.agg #[.int .i64 (-9223372036854775808), .int .u64 0], .bool true]) (by simp only [results, Try.results83]; go_simp) rfl ⟨rfl, (by repeat (first | with_reducible exact Below.refl _ _ | with_reducible assumption | with_reducible refine Below.drew ?_ | with_reducible refine Below.setCell ?_ (by first | omega | (simp; omega) | simp) _ | with_reducible refine Below.alloc ?_ (by first | omega | (simp; omega) | simp) _ | with_reducible refine Below.trans ?_ (Below.mono (by with_reducible assumption) (by first | omega | (simp; omega) | simp))))⟩
set_option maxRecDepth 100000 in
set_option maxHeartbeats 2000000 in
theorem made_neg (m : Int) (h1 : 0 ≤ m) (h2 : m ≤ 170141183460469231731687303715884105728) (w : World) : Calls Try.prog 83 #[.int .u64 (m / 18446744073709551616), .int .u64 (m % 18446744073709551616), .bool true] w fun e w' =>
    e = .returned (.tuple #[.agg #[.int .i64 (-m / 18446744073709551616), .int .u64 (-m % 18446744073709551616)], .bool true]) ∧ Below w.heap.size w w' := by
  have n1 := not_u64 (x := m % 18446744073709551616) (by omega) (by omega)
  have n2 := not_u64 (x := m / 18446744073709551616) (by omega) (by omega)
  have k1 := add64_0 (18446744073709551615 - m % 18446744073709551616) 1 (by omega) (by omega) (by omega) (by omega)
  have k2 := add64 (18446744073709551615 - m / 18446744073709551616) 0 ((18446744073709551615 - m % 18446744073709551616 + 1) / 18446744073709551616) (by omega) (by omega) (by omega) (by omega) (by omega) (by omega)
  rw [Int.add_zero] at k2
  have e1 : (18446744073709551615 - m % 18446744073709551616 + 1) % 18446744073709551616 = -m % 18446744073709551616 := by omega
  have e2 : IntKind.i64.wrap ((18446744073709551615 - m / 18446744073709551616 + (18446744073709551615 - m % 18446744073709551616 + 1) / 18446744073709551616) % 18446744073709551616) = -m / 18446744073709551616 := by rw [wrap_i64]; omega
  have K1 := Lib.hid k1
  have K2 := Lib.hid k2
  clear k1 k2
  rcases Int.lt_or_eq_of_le h2 with g3 | g3
  · have g4 : m / 18446744073709551616 < 9223372036854775808 := by omega
    go_enter Try.func83, Try.ntmps83
    go_wp2_with (first | simp only [K1.out] | simp only [K2.out])
    refine bodyPost_ret (v := .tuple #[.agg #[.int .i64 (-m / 18446744073709551616), .int .u64 (-m % 18446744073709551616)], .bool true]) (by simp only [results, Try.results83]; go_simp) rfl ⟨rfl, (by repeat (first | with_reducible exact Below.refl _ _ | with_reducible assumption | with_reducible refine Below.drew ?_ | with_reducible refine Below.setCell ?_ (by first | omega | (simp; omega) | simp) _ | with_reducible refine Below.alloc ?_ (by first | omega | (simp; omega) | simp) _ | with_reducible refine Below.trans ?_ (Below.mono (by with_reducible assumption) (by first | omega | (simp; omega) | simp))))⟩
  · subst g3
    exact made_edge w
/-- A product of two numbers of 64 bits. -/
theorem abs_mul (a b : Int) : ((a.natAbs : Nat) : Int) * ((b.natAbs : Nat) : Int) = if (decide (a < 0) != decide (b < 0)) = true then -(a * b) else a * b := by
  rcases Int.lt_or_le a 0 with ha | ha <;> rcases Int.lt_or_le b 0 with hb | hb
  · rw [if_neg (by simp [ha, hb]), Int.ofNat_natAbs_of_nonpos (by omega), Int.ofNat_natAbs_of_nonpos (by omega), Int.neg_mul_neg]
  · rw [if_pos (by simp [ha]; omega), Int.ofNat_natAbs_of_nonpos (by omega), Int.natAbs_of_nonneg hb, Int.neg_mul]
  · rw [if_pos (by simp [hb]; omega), Int.natAbs_of_nonneg ha, Int.ofNat_natAbs_of_nonpos (by omega), Int.mul_neg]
  · rw [if_neg (by simp; omega), Int.natAbs_of_nonneg ha, Int.natAbs_of_nonneg hb]
set_option maxRecDepth 100000 in
set_option maxHeartbeats 2000000 in
theorem mul_any (a b : Int) (ha : -9223372036854775808 ≤ a) (ha2 : a ≤ 9223372036854775807) (hb : -9223372036854775808 ≤ b) (hb2 : b ≤ 9223372036854775807) (w : World) : Calls Try.prog 41 #[.int .i64 a, .int .i64 b] w fun e w' =>
    e = .returned (.agg #[.int .i64 (a * b / 18446744073709551616), .int .u64 (a * b % 18446744073709551616)]) ∧ Below w.heap.size w w' := by
  have hm := abs_mul a b
  have b1 := mul_bd (A := 9223372036854775808) (B := 9223372036854775808) (a := (a.natAbs : Int)) (b := (b.natAbs : Int)) (by omega) (by omega) (by omega) (by omega)
  have b0 : 0 ≤ (a.natAbs : Int) * (b.natAbs : Int) := Int.mul_nonneg (by omega) (by omega)
  have w1 := word_any a ha ha2
  have w2 := word_any b hb hb2
  have x0 : (0 : Int) ≤ (a.natAbs : Int) := by omega
  have x1 : (a.natAbs : Int) < 18446744073709551616 := by omega
  have y0 : (0 : Int) ≤ (b.natAbs : Int) := by omega
  have y1 : (b.natAbs : Int) < 18446744073709551616 := by omega
  have hmade : ∀ w, Calls Try.prog 83 #[.int .u64 ((a.natAbs : Int) * (b.natAbs : Int) / 18446744073709551616), .int .u64 ((a.natAbs : Int) * (b.natAbs : Int) % 18446744073709551616), .bool (decide (a < 0) != decide (b < 0))] w fun e w' => e = .returned (.tuple #[.agg #[.int .i64 (a * b / 18446744073709551616), .int .u64 (a * b % 18446744073709551616)], .bool true]) ∧ Below w.heap.size w w' := by
    intro w
    rw [hm] at b0 b1 ⊢
    cases hs : (decide (a < 0) != decide (b < 0))
    · rw [hs] at b0 b1
      simp only [Bool.false_eq_true, if_false] at b0 b1 ⊢
      have := made_pos (a * b) (by omega) (by omega) w
      rwa [if_pos (by omega)] at this
    · rw [hs] at b0 b1
      simp only [if_true] at b0 b1 ⊢
      have := made_neg (-(a * b)) (by omega) (by omega) w
      rwa [Int.neg_neg] at this
  have W1 := Lib.hid w1
  have W2 := Lib.hid w2
  have HM := Lib.hid hmade
  clear w1 w2 hmade hm b1 b0
  generalize (a.natAbs : Int) = A at *
  generalize (b.natAbs : Int) = B at *
  generalize decide (a < 0) = p at *
  generalize decide (b < 0) = q at *
  go_enter Try.func41, Try.ntmps41
  go_wp2_with (first | (go_at_call_of 81 (a); refine (W1.out _).mono ?_; rintro e w' ⟨rfl, rfl⟩) | (go_at_call_of 81 (b); refine (W2.out _).mono ?_; rintro e w' ⟨rfl, rfl⟩) | (go_at_call 82; refine (mul64 _ _ x0 x1 y0 y1 _).mono ?_; rintro e w' ⟨rfl, rfl⟩) | (go_at_call 83; refine (HM.out _).mono ?_; rintro e w1 ⟨rfl, hb1⟩; have hs1 := hb1.size; simp at hs1; have hK : Below w.heap.size w w1 := Below.trans (by repeat (first | exact Below.refl _ _ | refine Below.alloc ?_ (by first | omega | (simp; omega) | simp) _)) (hb1.mono (by first | (simp; done) | (simp; omega))); have hR := heap_old hb1 (b := w.heap.size) (o := .cells #[.int .i64 0, .int .u64 0] 75) (by repeat (first | with_reducible refine heap_new _ _ (by first | omega | (simp; done) | (simp; omega)) | with_reducible apply heap_alloc)); have r0 := cell_heap (o := 0) hR rfl; have r1 := cell_heap (o := 1) hR rfl; have f0 := frozen_heap (o := 0) hR; have f1 := frozen_heap (o := 1) hR))
  refine bodyPost_ret (v := .agg #[.int .i64 (a * b / 18446744073709551616), .int .u64 (a * b % 18446744073709551616)]) (by simp only [results, Try.results41]; go_simp) rfl ⟨rfl, (by repeat (first | with_reducible exact Below.refl _ _ | with_reducible assumption | with_reducible refine Below.drew ?_ | with_reducible refine Below.setCell ?_ (by first | omega | (simp; omega) | simp) _ | with_reducible refine Below.alloc ?_ (by first | omega | (simp; omega) | simp) _ | with_reducible refine Below.trans ?_ (Below.mono (by with_reducible assumption) (by first | omega | (simp; omega) | simp))))⟩
end Go.Proofs.Ytmdledlbkdcmnaa

/-
  Contracts of wide.Add over whole numbers, wide.Sign, lsq.Accept.
  Conditions: none.
-/
namespace Go.Proofs.Ytmdledlbkdcmnaa
open Go.RowKit
theorem wadd_any (x y : Int) (hx : -170141183460469231731687303715884105728 ≤ x) (hx2 : x < 170141183460469231731687303715884105728) (hy : -170141183460469231731687303715884105728 ≤ y) (hy2 : y < 170141183460469231731687303715884105728) (w : World) :
    Calls Try.prog 42 #[.agg #[.int .i64 (x / 18446744073709551616), .int .u64 (x % 18446744073709551616)], .agg #[.int .i64 (y / 18446744073709551616), .int .u64 (y % 18446744073709551616)]] w fun e w' => e = .returned (if -170141183460469231731687303715884105728 ≤ x + y ∧ x + y < 170141183460469231731687303715884105728 then .tuple #[.agg #[.int .i64 ((x + y) / 18446744073709551616), .int .u64 ((x + y) % 18446744073709551616)], .bool true] else .tuple #[.agg #[.int .i64 0, .int .u64 0], .bool false]) ∧ Below w.heap.size w w' := by
  have h := add_parts (x / 18446744073709551616) (x % 18446744073709551616) (y / 18446744073709551616) (y % 18446744073709551616) _ _ _ (by omega) (by omega) (by omega) (by omega) (by omega) (by omega) (by omega) (by omega) (wrap_u64 _) (wrap_u64 _) (wrap_i64 _) w
  refine h.mono ?_
  rintro e w' ⟨rfl, hb⟩
  refine ⟨?_, hb⟩
  congr 1
  by_cases hk : -170141183460469231731687303715884105728 ≤ x + y ∧ x + y < 170141183460469231731687303715884105728
  · rw [if_pos hk, if_neg (by omega)]
    have e1 : (x % 18446744073709551616 + y % 18446744073709551616) % 18446744073709551616 = (x + y) % 18446744073709551616 := by omega
    have e2 : (((x / 18446744073709551616 % 18446744073709551616 + y / 18446744073709551616 % 18446744073709551616 + (x % 18446744073709551616 + y % 18446744073709551616) / 18446744073709551616) % 18446744073709551616 + 9223372036854775808) % 18446744073709551616 - 9223372036854775808) = (x + y) / 18446744073709551616 := by omega
    rw [e1, e2]
  · rw [if_neg hk, if_pos (by omega)]
theorem wadd_ok (x y : Int) (hx : -170141183460469231731687303715884105728 ≤ x) (hx2 : x < 170141183460469231731687303715884105728) (hy : -170141183460469231731687303715884105728 ≤ y) (hy2 : y < 170141183460469231731687303715884105728) (h1 : -170141183460469231731687303715884105728 ≤ x + y) (h2 : x + y < 170141183460469231731687303715884105728) (w : World) :
    Calls Try.prog 42 #[.agg #[.int .i64 (x / 18446744073709551616), .int .u64 (x % 18446744073709551616)], .agg #[.int .i64 (y / 18446744073709551616), .int .u64 (y % 18446744073709551616)]] w fun e w' => e = .returned (.tuple #[.agg #[.int .i64 ((x + y) / 18446744073709551616), .int .u64 ((x + y) % 18446744073709551616)], .bool true]) ∧ Below w.heap.size w w' := by
  have h := wadd_any x y hx hx2 hy hy2 w
  rwa [if_pos ⟨h1, h2⟩] at h
def cmpV (x y : Int) : Int := if x < y then -1 else if x = y then 0 else 1
set_option maxRecDepth 100000 in
set_option maxHeartbeats 2000000 in
/-- The order by its parts. -/
theorem cmp_parts (a al b bl : Int) (w : World) : Calls Try.prog 87 #[.agg #[.int .i64 a, .int .u64 al], .agg #[.int .i64 b, .int .u64 bl]] w fun e w' => e = .returned (.int .i64 (if a < b ∨ (a = b ∧ al < bl) then -1 else if a = b ∧ al = bl then 0 else 1)) ∧ Below w.heap.size w w' := by
  have hl := @Later.cell
  by_cases g1 : a < b
  · rw [if_pos (.inl g1)]
    go_enter Try.func87, Try.ntmps87
    go_wp2_with fail
    all_goals (go_ret; exact ⟨rfl, (by repeat (first | with_reducible exact Below.refl _ _ | with_reducible assumption | with_reducible refine Below.drew ?_ | with_reducible refine Below.setCell ?_ (by first | omega | (simp; omega) | simp) _ | with_reducible refine Below.alloc ?_ (by first | omega | (simp; omega) | simp) _ | with_reducible refine Below.trans ?_ (Below.mono (by with_reducible assumption) (by first | omega | (simp; omega) | simp))))⟩)
  · by_cases g2 : a = b
    · subst g2
      by_cases g3 : al < bl
      · rw [if_pos (.inr ⟨rfl, g3⟩)]
        go_enter Try.func87, Try.ntmps87
        go_wp2_with fail
        all_goals (go_ret; exact ⟨rfl, (by repeat (first | with_reducible exact Below.refl _ _ | with_reducible assumption | with_reducible refine Below.drew ?_ | with_reducible refine Below.setCell ?_ (by first | omega | (simp; omega) | simp) _ | with_reducible refine Below.alloc ?_ (by first | omega | (simp; omega) | simp) _ | with_reducible refine Below.trans ?_ (Below.mono (by with_reducible assumption) (by first | omega | (simp; omega) | simp))))⟩)
      · by_cases g4 : al = bl
        · subst g4
          rw [if_neg (by omega), if_pos ⟨rfl, rfl⟩]
          go_enter Try.func87, Try.ntmps87
          go_wp2_with fail
          all_goals (go_ret; exact ⟨rfl, (by repeat (first | with_reducible exact Below.refl _ _ | with_reducible assumption | with_reducible refine Below.drew ?_ | with_reducible refine Below.setCell ?_ (by first | omega | (simp; omega) | simp) _ | with_reducible refine Below.alloc ?_ (by first | omega | (simp; omega) | simp) _ | with_reducible refine Below.trans ?_ (Below.mono (by with_reducible assumption) (by first | omega | (simp; omega) | simp))))⟩)
        · rw [if_neg (by omega), if_neg (by omega)]
          go_enter Try.func87, Try.ntmps87
          go_wp2_with fail
          all_goals (go_ret; exact ⟨rfl, (by repeat (first | with_reducible exact Below.refl _ _ | with_reducible assumption | with_reducible refine Below.drew ?_ | with_reducible refine Below.setCell ?_ (by first | omega | (simp; omega) | simp) _ | with_reducible refine Below.alloc ?_ (by first | omega | (simp; omega) | simp) _ | with_reducible refine Below.trans ?_ (Below.mono (by with_reducible assumption) (by first | omega | (simp; omega) | simp))))⟩)
    · rw [if_neg (by omega), if_neg (by omega)]
      go_enter Try.func87, Try.ntmps87
      go_wp2_with fail
      all_goals (go_ret; exact ⟨rfl, (by repeat (first | with_reducible exact Below.refl _ _ | with_reducible assumption | with_reducible refine Below.drew ?_ | with_reducible refine Below.setCell ?_ (by first | omega | (simp; omega) | simp) _ | with_reducible refine Below.alloc ?_ (by first | omega | (simp; omega) | simp) _ | with_reducible refine Below.trans ?_ (Below.mono (by with_reducible assumption) (by first | omega | (simp; omega) | simp))))⟩)
theorem cmp_any (x y : Int) (w : World) : Calls Try.prog 87 #[.agg #[.int .i64 (x / 18446744073709551616), .int .u64 (x % 18446744073709551616)], .agg #[.int .i64 (y / 18446744073709551616), .int .u64 (y % 18446744073709551616)]] w fun e w' => e = .returned (.int .i64 (cmpV x y)) ∧ Below w.heap.size w w' := by
  refine (cmp_parts _ _ _ _ w).mono ?_
  rintro e w' ⟨rfl, hb⟩
  refine ⟨ret_int ?_, hb⟩
  unfold cmpV
  by_cases h1 : x < y
  · rw [if_pos h1, if_pos (by omega)]
  · rw [if_neg h1, if_neg (by omega)]
    by_cases h2 : x = y
    · rw [if_pos h2, if_pos (by omega)]
    · rw [if_neg h2, if_neg (by omega)]
end Go.Proofs.Ytmdledlbkdcmnaa

/-
  Contracts of wide.Sub, Neg and Scale.
  Conditions: none.
-/
namespace Go.Proofs.Ytmdledlbkdcmnaa
open Go.RowKit
theorem sub64 (x y c : Int) (hx : 0 ≤ x) (hx2 : x < 18446744073709551616) (hy : 0 ≤ y) (hy2 : y < 18446744073709551616) (hc0 : 0 ≤ c) (hc : c ≤ 1) (w : World) : (callFunc 112 #[.int .u64 x, .int .u64 y, .int .u64 c]).run Try.prog w =
    .ok (.value (.tuple #[.int .u64 ((x - y - c) % 18446744073709551616), .int .u64 (-((x - y - c) / 18446744073709551616))])) w := by
  obtain ⟨x, rfl⟩ := Int.eq_ofNat_of_zero_le hx
  obtain ⟨y, rfl⟩ := Int.eq_ofNat_of_zero_le hy
  obtain ⟨c, rfl⟩ := Int.eq_ofNat_of_zero_le hc0
  rw [run_callFunc_extern Try.func112 (by kernel_rfl) (by kernel_rfl) (by kernel_rfl) (e := sub64Entry) (by kernel_rfl), run_sub64 x y c (by omega)]
  simp only [Result.andThen]
  have e1 : (((x + 18446744073709551616 - y - c) % 18446744073709551616 : Nat) : Int) = ((x : Int) - y - c) % 18446744073709551616 := by omega
  have e2 : ((if x < y + c then 1 else 0 : Nat) : Int) = -(((x : Int) - y - c) / 18446744073709551616) := by split <;> omega
  rw [e1, e2]
theorem sub64_0 (x y : Int) (hx : 0 ≤ x) (hx2 : x < 18446744073709551616) (hy : 0 ≤ y) (hy2 : y < 18446744073709551616) (w : World) : (callFunc 112 #[.int .u64 x, .int .u64 y, .int .u64 0]).run Try.prog w =
    .ok (.value (.tuple #[.int .u64 ((x - y) % 18446744073709551616), .int .u64 (-((x - y) / 18446744073709551616))])) w := by
  simpa using sub64 x y 0 hx hx2 hy hy2 (Int.le_refl 0) (by decide) w
set_option maxRecDepth 100000 in
set_option maxHeartbeats 2000000 in
/-- The difference by its parts, where the signs of the three are given. -/
theorem sub_parts (a al b bl A B h : Int) (ha : -9223372036854775808 ≤ a) (ha2 : a ≤ 9223372036854775807) (hb : -9223372036854775808 ≤ b) (hb2 : b ≤ 9223372036854775807) (l1 : 0 ≤ al) (l2 : al < 18446744073709551616) (m1 : 0 ≤ bl) (m2 : bl < 18446744073709551616)
    (hA : IntKind.u64.wrap a = A) (hB : IntKind.u64.wrap b = B) (hh : IntKind.i64.wrap ((A - B + (al - bl) / 18446744073709551616) % 18446744073709551616) = h) (w : World) :
    Calls Try.prog 85 #[.agg #[.int .i64 a, .int .u64 al], .agg #[.int .i64 b, .int .u64 bl]] w fun e w' => e = .returned (if (a < 0 ∧ ¬b < 0 ∧ ¬h < 0) ∨ (¬a < 0 ∧ b < 0 ∧ h < 0) then .tuple #[.agg #[.int .i64 0, .int .u64 0], .bool false] else .tuple #[.agg #[.int .i64 h, .int .u64 ((al - bl) % 18446744073709551616)], .bool true]) ∧ Below w.heap.size w w' := by
  have c0 : 0 ≤ -((al - bl) / 18446744073709551616) := by omega
  have c1 : -((al - bl) / 18446744073709551616) ≤ 1 := by omega
  have x0 : 0 ≤ A := by rw [← hA, wrap_u64]; omega
  have x1 : A < 18446744073709551616 := by rw [← hA, wrap_u64]; omega
  have y0 : 0 ≤ B := by rw [← hB, wrap_u64]; omega
  have y1 : B < 18446744073709551616 := by rw [← hB, wrap_u64]; omega
  have k1 := sub64_0 al bl l1 l2 m1 m2
  have k2 := sub64 A B _ x0 x1 y0 y1 c0 c1
  have K1 := Lib.hid k1
  simp only [Int.sub_neg] at k2
  have K2 := Lib.hid k2
  clear k1 k2 x0 x1 y0 y1 c0 c1
  have hl := @Later.cell
  by_cases ga : a < 0
  · by_cases gb : b < 0
    · · rw [if_neg (by omega)]
        go_enter Try.func85, Try.ntmps85
        go_wp2_with (first | simp only [K1.out] | simp only [K2.out])
        refine bodyPost_ret (v := .tuple #[.agg #[.int .i64 h, .int .u64 ((al - bl) % 18446744073709551616)], .bool true]) (by simp only [results, Try.results85]; go_simp) rfl ⟨rfl, (by repeat (first | with_reducible exact Below.refl _ _ | with_reducible assumption | with_reducible refine Below.drew ?_ | with_reducible refine Below.setCell ?_ (by first | omega | (simp; omega) | simp) _ | with_reducible refine Below.alloc ?_ (by first | omega | (simp; omega) | simp) _ | with_reducible refine Below.trans ?_ (Below.mono (by with_reducible assumption) (by first | omega | (simp; omega) | simp))))⟩
    · by_cases gh : h < 0
      · rw [if_neg (by omega)]
        go_enter Try.func85, Try.ntmps85
        go_wp2_with (first | simp only [K1.out] | simp only [K2.out])
        refine bodyPost_ret (v := .tuple #[.agg #[.int .i64 h, .int .u64 ((al - bl) % 18446744073709551616)], .bool true]) (by simp only [results, Try.results85]; go_simp) rfl ⟨rfl, (by repeat (first | with_reducible exact Below.refl _ _ | with_reducible assumption | with_reducible refine Below.drew ?_ | with_reducible refine Below.setCell ?_ (by first | omega | (simp; omega) | simp) _ | with_reducible refine Below.alloc ?_ (by first | omega | (simp; omega) | simp) _ | with_reducible refine Below.trans ?_ (Below.mono (by with_reducible assumption) (by first | omega | (simp; omega) | simp))))⟩
      · rw [if_pos (by omega)]
        go_enter Try.func85, Try.ntmps85
        go_wp2_with (first | simp only [K1.out] | simp only [K2.out])
        refine bodyPost_ret (v := .tuple #[.agg #[.int .i64 0, .int .u64 0], .bool false]) (by simp only [results, Try.results85]; go_simp) rfl ⟨rfl, (by repeat (first | with_reducible exact Below.refl _ _ | with_reducible assumption | with_reducible refine Below.drew ?_ | with_reducible refine Below.setCell ?_ (by first | omega | (simp; omega) | simp) _ | with_reducible refine Below.alloc ?_ (by first | omega | (simp; omega) | simp) _ | with_reducible refine Below.trans ?_ (Below.mono (by with_reducible assumption) (by first | omega | (simp; omega) | simp))))⟩
  · by_cases gb : b < 0
    · by_cases gh : h < 0
      · rw [if_pos (by omega)]
        go_enter Try.func85, Try.ntmps85
        go_wp2_with (first | simp only [K1.out] | simp only [K2.out])
        refine bodyPost_ret (v := .tuple #[.agg #[.int .i64 0, .int .u64 0], .bool false]) (by simp only [results, Try.results85]; go_simp) rfl ⟨rfl, (by repeat (first | with_reducible exact Below.refl _ _ | with_reducible assumption | with_reducible refine Below.drew ?_ | with_reducible refine Below.setCell ?_ (by first | omega | (simp; omega) | simp) _ | with_reducible refine Below.alloc ?_ (by first | omega | (simp; omega) | simp) _ | with_reducible refine Below.trans ?_ (Below.mono (by with_reducible assumption) (by first | omega | (simp; omega) | simp))))⟩
      · rw [if_neg (by omega)]
        go_enter Try.func85, Try.ntmps85
        go_wp2_with (first | simp only [K1.out] | simp only [K2.out])
        refine bodyPost_ret (v := .tuple #[.agg #[.int .i64 h, .int .u64 ((al - bl) % 18446744073709551616)], .bool true]) (by simp only [results, Try.results85]; go_simp) rfl ⟨rfl, (by repeat (first | with_reducible exact Below.refl _ _ | with_reducible assumption | with_reducible refine Below.drew ?_ | with_reducible refine Below.setCell ?_ (by first | omega | (simp; omega) | simp) _ | with_reducible refine Below.alloc ?_ (by first | omega | (simp; omega) | simp) _ | with_reducible refine Below.trans ?_ (Below.mono (by with_reducible assumption) (by first | omega | (simp; omega) | simp))))⟩
    · · rw [if_neg (by omega)]
        go_enter Try.func85, Try.ntmps85
        go_wp2_with (first | simp only [K1.out] | simp only [K2.out])
        refine bodyPost_ret (v := .tuple #[.agg #[.int .i64 h, .int .u64 ((al - bl) % 18446744073709551616)], .bool true]) (by simp only [results, Try.results85]; go_simp) rfl ⟨rfl, (by repeat (first | with_reducible exact Below.refl _ _ | with_reducible assumption | with_reducible refine Below.drew ?_ | with_reducible refine Below.setCell ?_ (by first | omega | (simp; omega) | simp) _ | with_reducible refine Below.alloc ?_ (by first | omega | (simp; omega) | simp) _ | with_reducible refine Below.trans ?_ (Below.mono (by with_reducible assumption) (by first | omega | (simp; omega) | simp))))⟩
theorem wsub_any (x y : Int) (hx : -170141183460469231731687303715884105728 ≤ x) (hx2 : x < 170141183460469231731687303715884105728) (hy : -170141183460469231731687303715884105728 ≤ y) (hy2 : y < 170141183460469231731687303715884105728) (w : World) :
    Calls Try.prog 85 #[.agg #[.int .i64 (x / 18446744073709551616), .int .u64 (x % 18446744073709551616)], .agg #[.int .i64 (y / 18446744073709551616), .int .u64 (y % 18446744073709551616)]] w fun e w' => e = .returned (if -170141183460469231731687303715884105728 ≤ x - y ∧ x - y < 170141183460469231731687303715884105728 then .tuple #[.agg #[.int .i64 ((x - y) / 18446744073709551616), .int .u64 ((x - y) % 18446744073709551616)], .bool true] else .tuple #[.agg #[.int .i64 0, .int .u64 0], .bool false]) ∧ Below w.heap.size w w' := by
  have h := sub_parts (x / 18446744073709551616) (x % 18446744073709551616) (y / 18446744073709551616) (y % 18446744073709551616) _ _ _ (by omega) (by omega) (by omega) (by omega) (by omega) (by omega) (by omega) (by omega) (wrap_u64 _) (wrap_u64 _) (wrap_i64 _) w
  refine h.mono ?_
  rintro e w' ⟨rfl, hb⟩
  refine ⟨?_, hb⟩
  congr 1
  by_cases hk : -170141183460469231731687303715884105728 ≤ x - y ∧ x - y < 170141183460469231731687303715884105728
  · rw [if_pos hk, if_neg (by omega)]
    have e1 : (x % 18446744073709551616 - y % 18446744073709551616) % 18446744073709551616 = (x - y) % 18446744073709551616 := by omega
    have e2 : (((x / 18446744073709551616 % 18446744073709551616 - y / 18446744073709551616 % 18446744073709551616 + (x % 18446744073709551616 - y % 18446744073709551616) / 18446744073709551616) % 18446744073709551616 + 9223372036854775808) % 18446744073709551616 - 9223372036854775808) = (x - y) / 18446744073709551616 := by omega
    rw [e1, e2]
  · rw [if_neg hk, if_pos (by omega)]
theorem wsub_ok (x y : Int) (hx : -170141183460469231731687303715884105728 ≤ x) (hx2 : x < 170141183460469231731687303715884105728) (hy : -170141183460469231731687303715884105728 ≤ y) (hy2 : y < 170141183460469231731687303715884105728) (h1 : -170141183460469231731687303715884105728 ≤ x - y) (h2 : x - y < 170141183460469231731687303715884105728) (w : World) :
    Calls Try.prog 85 #[.agg #[.int .i64 (x / 18446744073709551616), .int .u64 (x % 18446744073709551616)], .agg #[.int .i64 (y / 18446744073709551616), .int .u64 (y % 18446744073709551616)]] w fun e w' => e = .returned (.tuple #[.agg #[.int .i64 ((x - y) / 18446744073709551616), .int .u64 ((x - y) % 18446744073709551616)], .bool true]) ∧ Below w.heap.size w w' := by
  have h := wsub_any x y hx hx2 hy hy2 w
  rwa [if_pos ⟨h1, h2⟩] at h
theorem wneg_ok (x : Int) (h1 : -170141183460469231731687303715884105728 < x) (h2 : x < 170141183460469231731687303715884105728) (w : World) : Calls Try.prog 43 #[.agg #[.int .i64 (x / 18446744073709551616), .int .u64 (x % 18446744073709551616)]] w fun e w' => e = .returned (.tuple #[.agg #[.int .i64 (-x / 18446744073709551616), .int .u64 (-x % 18446744073709551616)], .bool true]) ∧ Below w.heap.size w w' := by
  have h := wsub_ok 0 x (by omega) (by omega) (by omega) h2 (by omega) (by omega)
  rw [show (0 : Int) / 18446744073709551616 = 0 by decide, show (0 : Int) % 18446744073709551616 = 0 by decide, Int.zero_sub] at h
  have H := Lib.hid h
  clear h
  go_enter Try.func43, Try.ntmps43
  go_wp2_with (go_at_call 85; refine (H.out _).mono ?_; rintro e w' ⟨rfl, hb⟩; (try clear hc hf); (try clear hcM hfM); (try clear hcN hfN); (first | ((first | replace hB := Below.next hB (Nat.le_refl _) hb | replace hB := Below.next1 hB (Nat.le_refl _) hb | replace hB := Below.next2 hB (Nat.le_refl _) hb); (first | replace hM := Below.next hM (Nat.le_refl _) hb | replace hM := Below.next1 hM (Nat.le_refl _) hb | replace hM := Below.next2 hM (Nat.le_refl _) hb); (first | replace hN := Below.next hN (Nat.le_refl _) hb | replace hN := Below.next1 hN (Nat.le_refl _) hb | replace hN := Below.next2 hN (Nat.le_refl _) hb)) | ((first | replace hB := Below.next hB (Nat.le_refl _) hb | replace hB := Below.next1 hB (Nat.le_refl _) hb | replace hB := Below.next2 hB (Nat.le_refl _) hb); (first | replace hM := Below.next hM (Nat.le_refl _) hb | replace hM := Below.next1 hM (Nat.le_refl _) hb | replace hM := Below.next2 hM (Nat.le_refl _) hb); have hN := Below.mid hb) | ((first | replace hB := Below.next hB (Nat.le_refl _) hb | replace hB := Below.next1 hB (Nat.le_refl _) hb | replace hB := Below.next2 hB (Nat.le_refl _) hb); (first | replace hM := Below.next hM (Nat.le_refl _) hb | replace hM := Below.next1 hM (Nat.le_refl _) hb | replace hM := Below.next2 hM (Nat.le_refl _) hb)) | ((first | replace hB := Below.next hB (Nat.le_refl _) hb | replace hB := Below.next1 hB (Nat.le_refl _) hb | replace hB := Below.next2 hB (Nat.le_refl _) hb); have hM := Below.mid hb) | (first | replace hB := Below.next hB (Nat.le_refl _) hb | replace hB := Below.next1 hB (Nat.le_refl _) hb | replace hB := Below.next2 hB (Nat.le_refl _) hb) | have hB := hb); obtain ⟨hc, hf, hz⟩ := after hB; (try (have hq := after hM; obtain ⟨hcM, hfM, hzM⟩ := hq)); (try (have hq := after hN; obtain ⟨hcN, hfN, hzN⟩ := hq)); have hs := hb.size; (try simp at hz); (try simp at hs))
  refine bodyPost_ret (v := .tuple #[.agg #[.int .i64 (-x / 18446744073709551616), .int .u64 (-x % 18446744073709551616)], .bool true]) (by simp only [results, Try.results43]; go_simp) rfl ⟨rfl, (by repeat (first | with_reducible exact Below.refl _ _ | with_reducible assumption | with_reducible refine Below.drew ?_ | with_reducible refine Below.setCell ?_ (by first | omega | (simp; omega) | simp) _ | with_reducible refine Below.alloc ?_ (by first | omega | (simp; omega) | simp) _ | with_reducible refine Below.trans ?_ (Below.mono (by with_reducible assumption) (by first | omega | (simp; omega) | simp))))⟩
end Go.Proofs.Ytmdledlbkdcmnaa
