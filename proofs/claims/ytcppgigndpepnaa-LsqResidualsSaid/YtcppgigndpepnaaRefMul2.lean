/-
  Contracts of the reference's Scale and Mul, for factors of 64 bits.
  Conditions: none.
-/
import Derived.Test.YtcppgigndpepnaaRefMul
namespace Go.Proofs.Ytcppgigndpepnaa
open Go.RowKit
set_option maxRecDepth 100000 in
set_option maxHeartbeats 4000000 in
theorem rmul_any (a b : Int) (a1 : -9223372036854775808 ≤ a) (a2 : a ≤ 9223372036854775807) (b1 : -9223372036854775808 ≤ b) (b2 : b ≤ 9223372036854775807) (w : World) :
    Calls Try.prog 78 #[.int .i64 a, .int .i64 b] w fun e w' => e = .returned (.agg #[.int .i64 (a * b / 18446744073709551616), .int .u64 (a * b % 18446744073709551616)]) ∧ Below w.heap.size w w' := by
  have ho := Lib.hid (fun w => rof_any a a1 a2 w)
  have hs := Lib.hid (fun w => rscale_any a b a1 a2 b1 b2 w)
  generalize a * b / 18446744073709551616 = R0 at *
  generalize a * b % 18446744073709551616 = R1 at *
  generalize a / 18446744073709551616 = p0 at *
  generalize a % 18446744073709551616 = q0 at *
  go_enter Try.func78, Try.ntmps78
  go_wp2_with (first
    | (go_at_call 79; refine (ho.out _).mono ?_; rintro e w1 ⟨rfl, k1⟩; have hK := Below.next1 (Below.refl w.heap.size w) (Nat.le_refl _) k1; have hR := heap_old k1 (heap_new w (.cells #[.int .i64 0, .int .u64 0] 65) rfl))
    | (go_at_call 85; refine (hs.out _).mono ?_; rintro e w2 ⟨rfl, k2⟩; replace hK := Below.next hK (Nat.le_refl _) k2; replace hR := heap_old k2 hR; have r0 := cell_heap (o := 0) hR rfl; have r1 := cell_heap (o := 1) hR rfl; have f0 := frozen_heap (o := 0) hR; have f1 := frozen_heap (o := 1) hR; have hlt := (Array.getElem?_eq_some_iff.1 hR).1))
  refine bodyPost_ret (v := .agg #[.int .i64 R0, .int .u64 R1]) (by simp only [results, Try.results78]; go_simp) rfl ⟨rfl, (by repeat (first | with_reducible exact Below.refl _ _ | with_reducible assumption | with_reducible refine Below.drew ?_ | with_reducible refine Below.setCell ?_ (by first | omega | (simp; omega) | simp) _ | with_reducible refine Below.alloc ?_ (by first | omega | (simp; omega) | simp) _ | with_reducible refine Below.trans ?_ (Below.mono (by with_reducible assumption) (by first | omega | (simp; omega) | simp))))⟩
end Go.Proofs.Ytcppgigndpepnaa
