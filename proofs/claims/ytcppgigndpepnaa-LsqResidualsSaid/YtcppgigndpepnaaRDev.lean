/-
  Contracts of the reference's deviation and sum.
  Conditions: none.
-/
import Derived.Test.YtcppgigndpepnaaAcc2
import Derived.Test.YtcppgigndpepnaaRefMul2
namespace Go.Proofs.Ytcppgigndpepnaa
open Go.RowKit
set_option maxRecDepth 100000 in
set_option maxHeartbeats 4000000 in
theorem rdeviation_any (A B D t v : Int) (h : okL A B D = true) (hp : okP (t, v) = true) (w : World) : Calls Try.prog 76 #[.agg #[.int .i64 t, .int .i64 v], .agg #[.int .i64 A, .int .i64 B, .int .i64 D]] w fun e w' => e = .returned (.int .i64 (dev A B D (t, v))) ∧ Below w.heap.size w w' := by
  obtain ⟨⟨p1, p2⟩, ⟨q1, q2⟩, a1, a2⟩ := dev_parts h hp
  simp only at p1 p2 q1 q2
  have e : dev A B D (t, v) = D * v - A - B * t := rfl
  rw [e]
  clear e h hp
  go_enter Try.func76, Try.ntmps76
  go_wp2_with fail
  go_ret
  exact ⟨rfl, (by repeat (first | with_reducible exact Below.refl _ _ | with_reducible assumption | with_reducible refine Below.drew ?_ | with_reducible refine Below.setCell ?_ (by first | omega | (simp; omega) | simp) _ | with_reducible refine Below.alloc ?_ (by first | omega | (simp; omega) | simp) _ | with_reducible refine Below.trans ?_ (Below.mono (by with_reducible assumption) (by first | omega | (simp; omega) | simp))))⟩
theorem radd_ok (x y : Int) (hx : -170141183460469231731687303715884105728 ≤ x) (hx2 : x < 170141183460469231731687303715884105728) (hy : -170141183460469231731687303715884105728 ≤ y) (hy2 : y < 170141183460469231731687303715884105728) (h1 : -170141183460469231731687303715884105728 ≤ x + y) (h2 : x + y < 170141183460469231731687303715884105728) (w : World) :
    Calls Try.prog 77 #[.agg #[.int .i64 (x / 18446744073709551616), .int .u64 (x % 18446744073709551616)], .agg #[.int .i64 (y / 18446744073709551616), .int .u64 (y % 18446744073709551616)]] w fun e w' => e = .returned (.tuple #[.agg #[.int .i64 ((x + y) / 18446744073709551616), .int .u64 ((x + y) % 18446744073709551616)], .bool true]) ∧ Below w.heap.size w w' := by
  have h := radd_any x y hx hx2 hy hy2 w
  rwa [if_pos ⟨h1, h2⟩] at h
end Go.Proofs.Ytcppgigndpepnaa
