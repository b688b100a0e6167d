/-
  Contract of the reference's number of limbs and a sign.
  Conditions: none.
-/
import Derived.Test.YtcppgigndpepnaaRefWide2
import Derived.Test.YtcppgigndpepnaaRefSize
namespace Go.Proofs.Ytcppgigndpepnaa
open Go.RowKit
set_option maxRecDepth 100000 in
set_option maxHeartbeats 4000000 in
theorem rfrom_any (a b c d m : Int) (ha : 0 ≤ a ∧ a < 4294967296) (hb : 0 ≤ b ∧ b < 4294967296) (hc : 0 ≤ c ∧ c < 4294967296) (hd : 0 ≤ d ∧ d < 4294967296) (hm : a + b * 4294967296 + c * 18446744073709551616 + d * 79228162514264337593543950336 = m) (h2 : m < 170141183460469231731687303715884105728) (neg : Bool) (w : World) :
    Calls Try.prog 88 #[.agg #[.int .u64 a, .int .u64 b, .int .u64 c, .int .u64 d], .bool neg] w fun e w' => e = .returned (.tuple #[.agg #[.int .i64 ((if neg then -m else m) / 18446744073709551616), .int .u64 ((if neg then -m else m) % 18446744073709551616)], .bool true]) ∧ Below w.heap.size w w' := by
  obtain ⟨p1, p2⟩ := parts_of ha hb hm
  have o1 := or32 hd.1 hd.2 hc.1 hc.2
  have o2 := or32 hb.1 hb.2 ha.1 ha.2
  rw [p1] at o1
  rw [p2] at o2
  have s1 : IntKind.u64.wrap (d * 4294967296) = d * 4294967296 := by rw [wrap_u64]; omega
  have s2 : IntKind.u64.wrap (b * 4294967296) = b * 4294967296 := by rw [wrap_u64]; omega
  have z0 : 0 ≤ m / 18446744073709551616 := by omega
  have z1 : m / 18446744073709551616 ≤ 9223372036854775807 := by omega
  have hn := Lib.hid (fun w => rneg_ok m (by omega) h2 w)
  cases neg
  · simp only [Bool.false_eq_true, if_false]
    clear hn hm p1 p2
    generalize m / 18446744073709551616 = H at *
    generalize m % 18446744073709551616 = L at *
    go_enter Try.func88, Try.ntmps88
    go_wp2_with fail
    refine bodyPost_ret (v := .tuple #[.agg #[.int .i64 H, .int .u64 L], .bool true]) (by simp only [results, Try.results88]; go_simp) rfl ⟨rfl, (by repeat (first | with_reducible exact Below.refl _ _ | with_reducible assumption | with_reducible refine Below.drew ?_ | with_reducible refine Below.setCell ?_ (by first | omega | (simp; omega) | simp) _ | with_reducible refine Below.alloc ?_ (by first | omega | (simp; omega) | simp) _ | with_reducible refine Below.trans ?_ (Below.mono (by with_reducible assumption) (by first | omega | (simp; omega) | simp))))⟩
  · simp only [if_true]
    clear hm p1 p2
    generalize -m / 18446744073709551616 = N0 at *
    generalize -m % 18446744073709551616 = N1 at *
    generalize m / 18446744073709551616 = H at *
    generalize m % 18446744073709551616 = L at *
    go_enter Try.func88, Try.ntmps88
    go_wp2_with (go_at_call 89; refine (hn.out _).mono ?_; rintro e w1 ⟨rfl, hb1⟩; have hR := heap_old hb1 (heap_alloc (X := .cells #[.int .i64 H, .int .u64 L] 65) (heap_new (w.alloc (.cells #[.int .u64 a, .int .u64 b, .int .u64 c, .int .u64 d] 109)) (.cells #[.int .i64 0, .int .u64 0] 65) (b := w.heap.size + 1) (by simp))); have hK : Below w.heap.size w w1 := Below.trans (by repeat (first | with_reducible exact Below.refl _ _ | with_reducible assumption | with_reducible refine Below.drew ?_ | with_reducible refine Below.setCell ?_ (by first | omega | (simp; omega) | simp) _ | with_reducible refine Below.alloc ?_ (by first | omega | (simp; omega) | simp) _ | with_reducible refine Below.trans ?_ (Below.mono (by with_reducible assumption) (by first | omega | (simp; omega) | simp)))) (hb1.mono (by simp; omega)); have r0 := cell_heap (o := 0) hR rfl; have r1 := cell_heap (o := 1) hR rfl; have f0 := frozen_heap (o := 0) hR; have f1 := frozen_heap (o := 1) hR)
    refine bodyPost_ret (v := .tuple #[.agg #[.int .i64 N0, .int .u64 N1], .bool true]) (by simp only [results, Try.results88]; go_simp) rfl ⟨rfl, (by repeat (first | with_reducible exact Below.refl _ _ | with_reducible assumption | with_reducible refine Below.drew ?_ | with_reducible refine Below.setCell ?_ (by first | omega | (simp; omega) | simp) _ | with_reducible refine Below.alloc ?_ (by first | omega | (simp; omega) | simp) _ | with_reducible refine Below.trans ?_ (Below.mono (by with_reducible assumption) (by first | omega | (simp; omega) | simp))))⟩
end Go.Proofs.Ytcppgigndpepnaa
