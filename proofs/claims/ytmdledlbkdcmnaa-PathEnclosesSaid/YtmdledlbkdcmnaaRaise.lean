/-
  Contracts of Raise and of the rounding, ours and the reference's; of At for paths.
  Conditions: none.
-/
import Derived.Test.YtmdledlbkdcmnaaFlightPlain
namespace Go.Proofs.Ytmdledlbkdcmnaa
open Go.RowKit
theorem raise_no {t z : Int} (h : t < 0 ∨ 8000 < t ∨ z < -1000000 ∨ 1000000 < z) : 0 = raiseV t z := by unfold raiseV; rw [if_pos h]
theorem raise_yes {t z : Int} (h : ¬(t < 0 ∨ 8000 < t ∨ z < -1000000 ∨ 1000000 < z)) : raiseV t z = z * 80000 + 981 * t * t := by unfold raiseV; rw [if_neg h]
set_option maxHeartbeats 1000000 in
theorem raise_any (t z : Int) (w : World) : Calls Try.prog 53 #[.int .i64 t, .int .i64 z] w fun e w' => e = .returned (.int .i64 (raiseV t z)) ∧ w = w' := by
  by_cases h : t < 0 ∨ 8000 < t ∨ z < -1000000 ∨ 1000000 < z
  · have e1 := raise_no h
    rw [← e1]
    clear e1
    go_enter Try.func53, Try.ntmps53
    go_wp2_with fail
    all_goals first
      | (go_ret; exact ⟨rfl, rfl⟩)
      | (exfalso; omega)
  · have e1 := raise_yes h
    have hb := grav_bd (t := t) (by omega) (by omega)
    have hb2 : 0 ≤ 981 * t ∧ 981 * t ≤ 7848000 := by omega
    obtain ⟨b1, b2⟩ := hb
    obtain ⟨b3, b4⟩ := hb2
    obtain ⟨h1, h2, h3, h4⟩ : 0 ≤ t ∧ t ≤ 8000 ∧ -1000000 ≤ z ∧ z ≤ 1000000 := by omega
    rw [e1]
    clear e1 h
    go_enter Try.func53, Try.ntmps53
    go_wp2_with fail
    go_ret
    exact ⟨rfl, rfl⟩
set_option maxHeartbeats 1000000 in
theorem rraise_any (t z : Int) (w : World) : Calls Try.prog 108 #[.int .i64 t, .int .i64 z] w fun e w' => e = .returned (.int .i64 (raiseV t z)) ∧ w = w' := by
  by_cases h : t < 0 ∨ 8000 < t ∨ z < -1000000 ∨ 1000000 < z
  · have e1 := raise_no h
    rw [← e1]
    clear e1
    go_enter Try.func108, Try.ntmps108
    go_wp2_with fail
    all_goals first
      | (go_ret; exact ⟨rfl, rfl⟩)
      | (exfalso; omega)
  · have e1 := raise_yes h
    have hb := grav_bd (t := t) (by omega) (by omega)
    have hb2 : 0 ≤ 981 * t ∧ 981 * t ≤ 7848000 := by omega
    obtain ⟨b1, b2⟩ := hb
    obtain ⟨b3, b4⟩ := hb2
    obtain ⟨h1, h2, h3, h4⟩ : 0 ≤ t ∧ t ≤ 8000 ∧ -1000000 ≤ z ∧ z ≤ 1000000 := by omega
    rw [e1]
    clear e1 h
    go_enter Try.func108, Try.ntmps108
    go_wp2_with fail
    go_ret
    exact ⟨rfl, rfl⟩
end Go.Proofs.Ytmdledlbkdcmnaa
