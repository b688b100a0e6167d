/-
  Contracts of Credited, Total and Swaps.
  Conditions: none.
-/
import Derived.Test.YtddadpjaammaiaaBase
namespace Go.Proofs.Ytddadpjaammaiaa
open Go.RowKit

def crB (ho : Int) : Bool := decide (1 ≤ ho) && decide (ho ≤ 5)
theorem credited_any (ho : Int) (w : World) : Calls Try.prog 12 #[.int .u8 ho] w fun e w' => e = .returned (.bool (crB ho)) ∧ w = w' := by
  go_enter Try.func12, Try.ntmps12
  go_wp2_with fail
  all_goals (go_ret; refine ⟨ret_bool ?_, rfl⟩; simp only [crB]; grind)
theorem rcredited_any (ho : Int) (w : World) : Calls Try.prog 13 #[.int .u8 ho] w fun e w' => e = .returned (.bool (crB ho)) ∧ w = w' := by
  go_enter Try.func13, Try.ntmps13
  go_wp2_with fail
  all_goals (go_ret; refine ⟨ret_bool ?_, rfl⟩; simp only [crB]; grind)

def totV (ba wi nb by_ lb : Int) : Int := wrap64 (wrap64 (wrap64 (wrap64 (ba + wi) + nb) + by_) + lb)
theorem total_any (ba wi nb by_ lb bw : Int) (co fa wk sw : Bool) (w : World) : Calls Try.prog 18 #[.agg #[.int .i64 ba, .int .i64 wi, .int .i64 nb, .int .i64 by_, .int .i64 lb, .int .i64 bw, .bool co, .bool fa, .bool wk, .bool sw]] w fun e w' => e = .returned (.int .i64 (totV ba wi nb by_ lb)) ∧ Below w.heap.size w w' := by
  go_enter Try.func18, Try.ntmps18
  go_wp2_with fail
  go_ret
  exact ⟨rfl, (by repeat (first | with_reducible exact Below.refl _ _ | with_reducible assumption | with_reducible refine Below.drew ?_ | with_reducible refine Below.setCell ?_ (by first | omega | (simp; omega) | simp) _ | with_reducible refine Below.alloc ?_ (by first | omega | (simp; omega) | simp) _ | with_reducible refine Below.trans ?_ (Below.mono (by with_reducible assumption) (by first | omega | (simp; omega) | simp))))⟩
theorem rtotal_any (ba wi nb by_ lb bw : Int) (co fa wk sw : Bool) (w : World) : Calls Try.prog 19 #[.agg #[.int .i64 ba, .int .i64 wi, .int .i64 nb, .int .i64 by_, .int .i64 lb, .int .i64 bw, .bool co, .bool fa, .bool wk, .bool sw]] w fun e w' => e = .returned (.int .i64 (totV ba wi nb by_ lb)) ∧ Below w.heap.size w w' := by
  go_enter Try.func19, Try.ntmps19
  go_wp2_with fail
  go_ret
  exact ⟨rfl, (by repeat (first | with_reducible exact Below.refl _ _ | with_reducible assumption | with_reducible refine Below.drew ?_ | with_reducible refine Below.setCell ?_ (by first | omega | (simp; omega) | simp) _ | with_reducible refine Below.alloc ?_ (by first | omega | (simp; omega) | simp) _ | with_reducible refine Below.trans ?_ (Below.mono (by with_reducible assumption) (by first | omega | (simp; omega) | simp))))⟩

def swB (ru : Int) (cr : Bool) : Bool := (if cr then ru + 1 else ru) % 2 == 1
theorem rswaps_any (ty so ru sh bo : Int) (cr : Bool) (ho vi fi se : Int) (su : Bool) (sc : Int) (h0 : 0 ≤ ru) (h1 : ru ≤ 7) (w : World) : Calls Try.prog 23 #[.agg #[.int .u8 ty, .int .u8 so, .int .i64 ru, .int .i64 sh, .int .i64 bo, .bool cr, .int .u8 ho, .int .i64 vi, .int .i64 fi, .int .i64 se, .bool su, .int .i64 sc]] w fun e w' => e = .returned (.bool (swB ru cr)) ∧ Below w.heap.size w w' := by
  go_enter Try.func23, Try.ntmps23
  go_wp2_with fail
  go_ret
  refine ⟨ret_bool ?_, (by repeat (first | with_reducible exact Below.refl _ _ | with_reducible assumption | with_reducible refine Below.drew ?_ | with_reducible refine Below.setCell ?_ (by first | omega | (simp; omega) | simp) _ | with_reducible refine Below.alloc ?_ (by first | omega | (simp; omega) | simp) _ | with_reducible refine Below.trans ?_ (Below.mono (by with_reducible assumption) (by first | omega | (simp; omega) | simp))))⟩
  cases cr <;> simp [swB] <;> grind
end Go.Proofs.Ytddadpjaammaiaa
