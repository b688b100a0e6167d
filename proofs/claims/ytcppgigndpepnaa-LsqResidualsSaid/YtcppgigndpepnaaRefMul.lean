/-
  Contracts of the reference's Scale and Mul, for factors of 64 bits.
  Conditions: none.
-/
import Derived.Test.YtcppgigndpepnaaRefOf
import Derived.Test.YtcppgigndpepnaaRefTimes
namespace Go.Proofs.Ytcppgigndpepnaa
open Go.RowKit
theorem limB4 {a b c d : Int} (ha : 0 ≤ a ∧ a < 4294967296) (hb : 0 ≤ b ∧ b < 4294967296) (hc : 0 ≤ c ∧ c < 4294967296) (hd : 0 ≤ d ∧ d < 4294967296) : limB [a, b, c, d] := by
  intro x hx
  simp only [List.mem_cons, List.not_mem_nil, or_false] at hx
  rcases hx with rfl | rfl | rfl | rfl <;> assumption
theorem limbs_of (m : Int) (h1 : 0 ≤ m) (h2 : m < 340282366920938463463374607431768211456) : limB [m % 18446744073709551616 % 4294967296, m % 18446744073709551616 / 4294967296, m / 18446744073709551616 % 4294967296, m / 18446744073709551616 / 4294967296] := limB4 (by omega) (by omega) (by omega) (by omega)
set_option maxRecDepth 100000 in
set_option maxHeartbeats 4000000 in
theorem rscale_any (x n : Int) (x1 : -9223372036854775808 ≤ x) (x2 : x ≤ 9223372036854775807) (n1 : -9223372036854775808 ≤ n) (n2 : n ≤ 9223372036854775807) (w : World) :
    Calls Try.prog 85 #[.agg #[.int .i64 (x / 18446744073709551616), .int .u64 (x % 18446744073709551616)], .int .i64 n] w fun e w' => e = .returned (.tuple #[.agg #[.int .i64 (x * n / 18446744073709551616), .int .u64 (x * n % 18446744073709551616)], .bool true]) ∧ Below w.heap.size w w' := by
  have hm := abs_mul x n
  have hmb := mul_bd (A := 9223372036854775808) (B := 9223372036854775808) (a := (x.natAbs : Int)) (b := (n.natAbs : Int)) (by omega) (by omega) (by omega) (by omega)
  have s1 := Lib.hid (fun w => rsize_any x (by omega) (by omega) w)
  have s2 := Lib.hid (fun w => rsize_any n (by omega) (by omega) w)
  have ho := Lib.hid (fun w => rof_any n n1 n2 w)
  have la := limbs_of (x.natAbs : Int) (by omega) (by omega)
  have lb := limbs_of (n.natAbs : Int) (by omega) (by omega)
  have va := lv_parts (x.natAbs : Int)
  have vb := lv_parts (n.natAbs : Int)
  generalize (x.natAbs : Int) % 18446744073709551616 % 4294967296 = X0 at *
  generalize (x.natAbs : Int) % 18446744073709551616 / 4294967296 = X1 at *
  generalize (x.natAbs : Int) / 18446744073709551616 % 4294967296 = X2 at *
  generalize (x.natAbs : Int) / 18446744073709551616 / 4294967296 = X3 at *
  generalize (n.natAbs : Int) % 18446744073709551616 % 4294967296 = N0 at *
  generalize (n.natAbs : Int) % 18446744073709551616 / 4294967296 = N1 at *
  generalize (n.natAbs : Int) / 18446744073709551616 % 4294967296 = N2 at *
  generalize (n.natAbs : Int) / 18446744073709551616 / 4294967296 = N3 at *
  have ht := Lib.hid (fun w => rtimes_any X0 X1 X2 X3 N0 N1 N2 N3 la lb (by rw [va, vb]; omega) w)
  rw [va, vb] at ht
  have hq : (x / 18446744073709551616 < 0) = (x < 0) := propext ⟨by omega, by omega⟩
  have hfr := Lib.hid (fun (o0 o1 o2 o3 : Int) (e0 : 0 ≤ o0 ∧ o0 < 4294967296) (e1 : 0 ≤ o1 ∧ o1 < 4294967296) (e2 : 0 ≤ o2 ∧ o2 < 4294967296) (e3 : 0 ≤ o3 ∧ o3 < 4294967296) (e4 : o0 + o1 * 4294967296 + o2 * 18446744073709551616 + o3 * 79228162514264337593543950336 = (x.natAbs : Int) * (n.natAbs : Int)) (w : World) => by
    have := rfrom_any o0 o1 o2 o3 _ e0 e1 e2 e3 e4 (by omega) (decide (x < 0) != decide (n < 0)) w
    rw [show (if (decide (x < 0) != decide (n < 0)) = true then -((x.natAbs : Int) * (n.natAbs : Int)) else (x.natAbs : Int) * (n.natAbs : Int)) = x * n by rw [hm]; split <;> omega] at this
    exact this)
  clear hm hmb la lb va vb
  generalize x * n / 18446744073709551616 = R0 at *
  generalize x * n % 18446744073709551616 = R1 at *
  generalize (x.natAbs : Int) * (n.natAbs : Int) = M at *
  generalize x / 18446744073709551616 = h0 at *
  generalize x % 18446744073709551616 = l0 at *
  generalize n / 18446744073709551616 = p0 at *
  generalize n % 18446744073709551616 = q0 at *
  go_enter Try.func85, Try.ntmps85
  go_wp2_with (first
    | (go_at_call_of 87 (h0); refine (s1.out _).mono ?_; rintro e w1 ⟨rfl, k1⟩; have hK := Below.next2 (Below.refl w.heap.size w) (Nat.le_refl _) k1; have hX := heap_old k1 (heap_alloc (X := (.cells #[.int .i64 0, .int .u64 0] 65)) (heap_new w (.cells #[.int .i64 h0, .int .u64 l0] 65) rfl)); have hR := heap_old k1 (heap_new (w.alloc (.cells #[.int .i64 h0, .int .u64 l0] 65)) (.cells #[.int .i64 0, .int .u64 0] 65) (b := w.heap.size + 1) (by simp)))
    | (go_at_call 79; refine (ho.out _).mono ?_; rintro e w2 ⟨rfl, k2⟩; replace hK := Below.next hK (Nat.le_refl _) k2; replace hX := heap_old k2 hX; replace hR := heap_old k2 hR)
    | (go_at_call 87; refine (s2.out _).mono ?_; rintro e w3 ⟨rfl, k3⟩; replace hK := Below.next hK (Nat.le_refl _) k3; replace hX := heap_old k3 hX; replace hR := heap_old k3 hR)
    | (go_at_call 86; refine (ht.out _).mono ?_; rintro e w4 ⟨⟨o0, o1, o2, o3, rfl, e0, e1, e2, e3, e4⟩, k4⟩; have hfo := Lib.hid (fun w => hfr.out o0 o1 o2 o3 e0 e1 e2 e3 e4 w); clear e0 e1 e2 e3 e4 hfr; replace hK := (Below.next hK (Nat.le_refl _) k4); replace hK := hK.alloc hK.size (.cells #[.int .u64 o0, .int .u64 o1, .int .u64 o2, .int .u64 o3] 109); replace hX := heap_alloc (X := (.cells #[.int .u64 o0, .int .u64 o1, .int .u64 o2, .int .u64 o3] 109)) (heap_old k4 hX); replace hR := heap_alloc (X := (.cells #[.int .u64 o0, .int .u64 o1, .int .u64 o2, .int .u64 o3] 109)) (heap_old k4 hR); have x0 := cell_heap (o := 0) hX rfl)
    | (go_at_call 88; refine (hfo.out _).mono ?_; rintro e w5 ⟨rfl, k5⟩; replace hK := Below.next hK (Nat.le_refl _) k5; replace hR := heap_old k5 hR; have r0 := cell_heap (o := 0) hR rfl; have r1 := cell_heap (o := 1) hR rfl; have f0 := frozen_heap (o := 0) hR; have f1 := frozen_heap (o := 1) hR))
  refine bodyPost_ret (v := .tuple #[.agg #[.int .i64 R0, .int .u64 R1], .bool true]) (by simp only [results, Try.results85]; go_simp) rfl ⟨rfl, (by repeat (first | with_reducible exact Below.refl _ _ | with_reducible assumption | with_reducible refine Below.drew ?_ | with_reducible refine Below.setCell ?_ (by first | omega | (simp; omega) | simp) _ | with_reducible refine Below.alloc ?_ (by first | omega | (simp; omega) | simp) _ | with_reducible refine Below.trans ?_ (Below.mono (by with_reducible assumption) (by first | omega | (simp; omega) | simp))))⟩
end Go.Proofs.Ytcppgigndpepnaa
