/-
  Contract of wide.Add.
  Conditions: none.
-/
import Derived.Test.YtcppgigndpepnaaWide
namespace Go.Proofs.Ytcppgigndpepnaa
open Go.RowKit
set_option maxRecDepth 100000 in
set_option maxHeartbeats 2000000 in
/-- The sum by its parts, where the signs of the three are given. -/
theorem add_parts (a al b bl A B h : Int) (ha : -9223372036854775808 ≤ a) (ha2 : a ≤ 9223372036854775807) (hb : -9223372036854775808 ≤ b) (hb2 : b ≤ 9223372036854775807) (l1 : 0 ≤ al) (l2 : al < 18446744073709551616) (m1 : 0 ≤ bl) (m2 : bl < 18446744073709551616)
    (hA : IntKind.u64.wrap a = A) (hB : IntKind.u64.wrap b = B) (hh : IntKind.i64.wrap ((A + B + (al + bl) / 18446744073709551616) % 18446744073709551616) = h) (w : World) :
    Calls Try.prog 41 #[.agg #[.int .i64 a, .int .u64 al], .agg #[.int .i64 b, .int .u64 bl]] w fun e w' => e = .returned (if (a < 0 ∧ b < 0 ∧ ¬h < 0) ∨ (¬a < 0 ∧ ¬b < 0 ∧ h < 0) then .tuple #[.agg #[.int .i64 0, .int .u64 0], .bool false] else .tuple #[.agg #[.int .i64 h, .int .u64 ((al + bl) % 18446744073709551616)], .bool true]) ∧ Below w.heap.size w w' := by
  have c0 : 0 ≤ (al + bl) / 18446744073709551616 := by omega
  have c1 : (al + bl) / 18446744073709551616 ≤ 1 := by omega
  have x0 : 0 ≤ A := by rw [← hA, wrap_u64]; omega
  have x1 : A < 18446744073709551616 := by rw [← hA, wrap_u64]; omega
  have y0 : 0 ≤ B := by rw [← hB, wrap_u64]; omega
  have y1 : B < 18446744073709551616 := by rw [← hB, wrap_u64]; omega
  have k1 := add64_0 al bl l1 l2 m1 m2
  have k2 := add64 A B _ x0 x1 y0 y1 c0 c1
  have K1 := Lib.hid k1
  have K2 := Lib.hid k2
  clear k1 k2 x0 x1 y0 y1 c0 c1
  have hl := @Later.cell
  by_cases ga : a < 0
  · by_cases gb : b < 0
    · by_cases gh : h < 0
      · rw [if_neg (by omega)]
        go_enter Try.func41, Try.ntmps41
        go_wp2_with (first | simp only [K1.out] | simp only [K2.out])
        refine bodyPost_ret (v := .tuple #[.agg #[.int .i64 h, .int .u64 ((al + bl) % 18446744073709551616)], .bool true]) (by simp only [results, Try.results41]; go_simp) rfl ⟨rfl, (by repeat (first | with_reducible exact Below.refl _ _ | with_reducible assumption | with_reducible refine Below.drew ?_ | with_reducible refine Below.setCell ?_ (by first | omega | (simp; omega) | simp) _ | with_reducible refine Below.alloc ?_ (by first | omega | (simp; omega) | simp) _ | with_reducible refine Below.trans ?_ (Below.mono (by with_reducible assumption) (by first | omega | (simp; omega) | simp))))⟩
      · rw [if_pos (by omega)]
        go_enter Try.func41, Try.ntmps41
        go_wp2_with (first | simp only [K1.out] | simp only [K2.out])
        refine bodyPost_ret (v := .tuple #[.agg #[.int .i64 0, .int .u64 0], .bool false]) (by simp only [results, Try.results41]; go_simp) rfl ⟨rfl, (by repeat (first | with_reducible exact Below.refl _ _ | with_reducible assumption | with_reducible refine Below.drew ?_ | with_reducible refine Below.setCell ?_ (by first | omega | (simp; omega) | simp) _ | with_reducible refine Below.alloc ?_ (by first | omega | (simp; omega) | simp) _ | with_reducible refine Below.trans ?_ (Below.mono (by with_reducible assumption) (by first | omega | (simp; omega) | simp))))⟩
    · rw [if_neg (by omega)]
      go_enter Try.func41, Try.ntmps41
      go_wp2_with (first | simp only [K1.out] | simp only [K2.out])
      refine bodyPost_ret (v := .tuple #[.agg #[.int .i64 h, .int .u64 ((al + bl) % 18446744073709551616)], .bool true]) (by simp only [results, Try.results41]; go_simp) rfl ⟨rfl, (by repeat (first | with_reducible exact Below.refl _ _ | with_reducible assumption | with_reducible refine Below.drew ?_ | with_reducible refine Below.setCell ?_ (by first | omega | (simp; omega) | simp) _ | with_reducible refine Below.alloc ?_ (by first | omega | (simp; omega) | simp) _ | with_reducible refine Below.trans ?_ (Below.mono (by with_reducible assumption) (by first | omega | (simp; omega) | simp))))⟩
  · by_cases gb : b < 0
    · rw [if_neg (by omega)]
      go_enter Try.func41, Try.ntmps41
      go_wp2_with (first | simp only [K1.out] | simp only [K2.out])
      refine bodyPost_ret (v := .tuple #[.agg #[.int .i64 h, .int .u64 ((al + bl) % 18446744073709551616)], .bool true]) (by simp only [results, Try.results41]; go_simp) rfl ⟨rfl, (by repeat (first | with_reducible exact Below.refl _ _ | with_reducible assumption | with_reducible refine Below.drew ?_ | with_reducible refine Below.setCell ?_ (by first | omega | (simp; omega) | simp) _ | with_reducible refine Below.alloc ?_ (by first | omega | (simp; omega) | simp) _ | with_reducible refine Below.trans ?_ (Below.mono (by with_reducible assumption) (by first | omega | (simp; omega) | simp))))⟩
    · by_cases gh : h < 0
      · rw [if_pos (by omega)]
        go_enter Try.func41, Try.ntmps41
        go_wp2_with (first | simp only [K1.out] | simp only [K2.out])
        refine bodyPost_ret (v := .tuple #[.agg #[.int .i64 0, .int .u64 0], .bool false]) (by simp only [results, Try.results41]; go_simp) rfl ⟨rfl, (by repeat (first | with_reducible exact Below.refl _ _ | with_reducible assumption | with_reducible refine Below.drew ?_ | with_reducible refine Below.setCell ?_ (by first | omega | (simp; omega) | simp) _ | with_reducible refine Below.alloc ?_ (by first | omega | (simp; omega) | simp) _ | with_reducible refine Below.trans ?_ (Below.mono (by with_reducible assumption) (by first | omega | (simp; omega) | simp))))⟩
      · rw [if_neg (by omega)]
        go_enter Try.func41, Try.ntmps41
        go_wp2_with (first | simp only [K1.out] | simp only [K2.out])
        refine bodyPost_ret (v := .tuple #[.agg #[.int .i64 h, .int .u64 ((al + bl) % 18446744073709551616)], .bool true]) (by simp only [results, Try.results41]; go_simp) rfl ⟨rfl, (by repeat (first | with_reducible exact Below.refl _ _ | with_reducible assumption | with_reducible refine Below.drew ?_ | with_reducible refine Below.setCell ?_ (by first | omega | (simp; omega) | simp) _ | with_reducible refine Below.alloc ?_ (by first | omega | (simp; omega) | simp) _ | with_reducible refine Below.trans ?_ (Below.mono (by with_reducible assumption) (by first | omega | (simp; omega) | simp))))⟩
end Go.Proofs.Ytcppgigndpepnaa
