/-
  Contracts of the wide numbers: Of, Add, word, made, Mul.
  Conditions: none.
-/
import Derived.Test.YtcppgigndpepnaaAt
import Derived.Shelf.Spec.BitsCarry
import Derived.Shelf.Bits.Mul64
namespace Go.Proofs.Ytcppgigndpepnaa
open Go.RowKit
theorem wrap_u64 (n : Int) : IntKind.u64.wrap n = n % 18446744073709551616 := by
  simp [IntKind.wrap, IntKind.signed, IntKind.bits]
theorem wrap_i64 (n : Int) : IntKind.i64.wrap n = (n + 9223372036854775808) % 18446744073709551616 - 9223372036854775808 := by
  rw [IntKind.wrap_i64]
theorem add64 (x y c : Int) (hx : 0 ≤ x) (hx2 : x < 18446744073709551616) (hy : 0 ≤ y) (hy2 : y < 18446744073709551616) (hc0 : 0 ≤ c) (hc : c ≤ 1) (w : World) : (callFunc 69 #[.int .u64 x, .int .u64 y, .int .u64 c]).run Try.prog w =
    .ok (.value (.tuple #[.int .u64 ((x + y + c) % 18446744073709551616), .int .u64 ((x + y + c) / 18446744073709551616)])) w := by
  obtain ⟨x, rfl⟩ := Int.eq_ofNat_of_zero_le hx
  obtain ⟨y, rfl⟩ := Int.eq_ofNat_of_zero_le hy
  obtain ⟨c, rfl⟩ := Int.eq_ofNat_of_zero_le hc0
  rw [run_callFunc_extern Try.func69 (by kernel_rfl) (by kernel_rfl) (by kernel_rfl) (e := add64Entry) (by kernel_rfl), run_add64 x y c (by omega) (by omega) (by omega) (by omega)]
  simp only [Result.andThen]
theorem add64_0 (x y : Int) (hx : 0 ≤ x) (hx2 : x < 18446744073709551616) (hy : 0 ≤ y) (hy2 : y < 18446744073709551616) (w : World) : (callFunc 69 #[.int .u64 x, .int .u64 y, .int .u64 0]).run Try.prog w =
    .ok (.value (.tuple #[.int .u64 ((x + y) % 18446744073709551616), .int .u64 ((x + y) / 18446744073709551616)])) w := by
  simpa using add64 x y 0 hx hx2 hy hy2 (Int.le_refl 0) (by decide) w
theorem of_wide (n : Int) (h1 : -9223372036854775808 ≤ n) (h2 : n ≤ 9223372036854775807) (w : World) : Calls Try.prog 40 #[.int .i64 n] w fun e w' => e = .returned (.agg #[.int .i64 (n / 18446744073709551616), .int .u64 (n % 18446744073709551616)]) ∧ Below w.heap.size w w' := by
  have e1 : n / 9223372036854775808 = n / 18446744073709551616 := by omega
  go_enter Try.func40, Try.ntmps40
  go_wp2_with fail
  refine bodyPost_ret (v := .agg #[.int .i64 (n / 18446744073709551616), .int .u64 (n % 18446744073709551616)]) (by simp only [results, Try.results40]; go_simp; simp [wrap_u64]) rfl ⟨rfl, (by repeat (first | with_reducible exact Below.refl _ _ | with_reducible assumption | with_reducible refine Below.drew ?_ | with_reducible refine Below.setCell ?_ (by first | omega | (simp; omega) | simp) _ | with_reducible refine Below.alloc ?_ (by first | omega | (simp; omega) | simp) _ | with_reducible refine Below.trans ?_ (Below.mono (by with_reducible assumption) (by first | omega | (simp; omega) | simp))))⟩
theorem ret_word {a b : Int} {p q : Bool} (h : a = b) (hp : p = q) : Ending.returned (.tuple #[.int .u64 a, .bool p]) = .returned (.tuple #[.int .u64 b, .bool q]) := by rw [h, hp]
theorem word_any (n : Int) (h1 : -9223372036854775808 ≤ n) (h2 : n ≤ 9223372036854775807) (w : World) : Calls Try.prog 70 #[.int .i64 n] w fun e w' => e = .returned (.tuple #[.int .u64 (n.natAbs : Nat), .bool (decide (n < 0))]) ∧ w = w' := by
  rcases Int.lt_or_le n 0 with h | h
  · go_enter Try.func70, Try.ntmps70
    go_wp2_with fail
    go_ret2
    refine ⟨ret_word ?_ (by simp [h]), rfl⟩
    rw [wrap_u64, wrap_u64]
    omega
  · go_enter Try.func70, Try.ntmps70
    go_wp2_with fail
    go_ret2
    exact ⟨ret_word (by omega) (by simp; omega), rfl⟩
/-- bits.Mul64's numbers in the library's text. -/
def renM : Go.Shelf.Ren := ⟨fun _ => 71, fun n => if n = 46 then 93 else 63, fun n => n⟩
set_option maxRecDepth 100000 in
theorem laysM : Lays.n264 Try.prog renM := by
  constructor
  all_goals first | kernel_rfl | (intro w; rfl)
end Go.Proofs.Ytcppgigndpepnaa
