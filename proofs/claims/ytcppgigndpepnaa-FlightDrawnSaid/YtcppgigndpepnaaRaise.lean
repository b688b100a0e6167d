/-
  Contracts of Raise and of the rounding, ours and the reference's; of At for paths.
  Conditions: none.
-/
import Derived.Test.YtcppgigndpepnaaFlightPlain
namespace Go.Proofs.Ytcppgigndpepnaa
open Go.RowKit
theorem raise_no {t z : Int} (h : t < 0 ∨ 8000 < t ∨ z < -1000000 ∨ 1000000 < z) : 0 = raiseV t z := by unfold raiseV; rw [if_pos h]
theorem raise_yes {t z : Int} (h : ¬(t < 0 ∨ 8000 < t ∨ z < -1000000 ∨ 1000000 < z)) : raiseV t z = z * 80000 + 981 * t * t := by unfold raiseV; rw [if_neg h]
set_option maxHeartbeats 1000000 in
theorem raise_any (t z : Int) (w : World) : Calls Try.prog 30 #[.int .i64 t, .int .i64 z] w fun e w' => e = .returned (.int .i64 (raiseV t z)) ∧ w = w' := by
  by_cases h : t < 0 ∨ 8000 < t ∨ z < -1000000 ∨ 1000000 < z
  · have e1 := raise_no h
    rw [← e1]
    clear e1
    go_enter Try.func30, Try.ntmps30
    go_wp2_with fail
    all_goals first
      | (go_ret; exact ⟨rfl, rfl⟩)
      | (exfalso; omega)
  · have e1 := raise_yes h
    have hb := grav_bd (t := t) (by omega) (by omega)
    have hb2 : 0 ≤ 981 * t ∧ 981 * t ≤ 7848000 := by omega
    obtain ⟨b1, b2⟩ := hb
    obtain ⟨b3, b4⟩ := hb2
    obtain ⟨h1, h2, h3, h4⟩ : 0 ≤ t ∧ t ≤ 8000 ∧ -1000000 ≤ z ∧ z ≤ 1000000 := by omega
    rw [e1]
    clear e1 h
    go_enter Try.func30, Try.ntmps30
    go_wp2_with fail
    go_ret
    exact ⟨rfl, rfl⟩
set_option maxHeartbeats 1000000 in
theorem rraise_any (t z : Int) (w : World) : Calls Try.prog 31 #[.int .i64 t, .int .i64 z] w fun e w' => e = .returned (.int .i64 (raiseV t z)) ∧ w = w' := by
  by_cases h : t < 0 ∨ 8000 < t ∨ z < -1000000 ∨ 1000000 < z
  · have e1 := raise_no h
    rw [← e1]
    clear e1
    go_enter Try.func31, Try.ntmps31
    go_wp2_with fail
    all_goals first
      | (go_ret; exact ⟨rfl, rfl⟩)
      | (exfalso; omega)
  · have e1 := raise_yes h
    have hb := grav_bd (t := t) (by omega) (by omega)
    have hb2 : 0 ≤ 981 * t ∧ 981 * t ≤ 7848000 := by omega
    obtain ⟨b1, b2⟩ := hb
    obtain ⟨b3, b4⟩ := hb2
    obtain ⟨h1, h2, h3, h4⟩ : 0 ≤ t ∧ t ≤ 8000 ∧ -1000000 ≤ z ∧ z ≤ 1000000 := by omega
    rw [e1]
    clear e1 h
    go_enter Try.func31, Try.ntmps31
    go_wp2_with fail
    go_ret
    exact ⟨rfl, rfl⟩
theorem scaled_any (n : Int) (h1 : -80000000000 ≤ n) (h2 : n ≤ 142784000000) (w : World) : Calls Try.prog 65 #[.int .i64 n] w fun e w' => e = .returned (.int .i64 (nrst n)) ∧ Below w.heap.size w w' := by
  have e1 := nrst_two n
  have hf := fun w => floordiv_any (2 * n + 80000) 160000 (by omega) (by omega) (by omega) (by omega) w
  rw [e1] at hf
  have hF := Lib.hid hf
  clear hf e1
  go_enter Try.func65, Try.ntmps65
  go_wp2_with (go_at_call 61; refine (hF.out _).mono ?_; rintro e w' ⟨rfl, hb⟩; (try clear hc hf); (try clear hcM hfM); (try clear hcN hfN); (first | ((first | replace hB := Below.next hB (Nat.le_refl _) hb | replace hB := Below.next1 hB (Nat.le_refl _) hb | replace hB := Below.next2 hB (Nat.le_refl _) hb); (first | replace hM := Below.next hM (Nat.le_refl _) hb | replace hM := Below.next1 hM (Nat.le_refl _) hb | replace hM := Below.next2 hM (Nat.le_refl _) hb); (first | replace hN := Below.next hN (Nat.le_refl _) hb | replace hN := Below.next1 hN (Nat.le_refl _) hb | replace hN := Below.next2 hN (Nat.le_refl _) hb)) | ((first | replace hB := Below.next hB (Nat.le_refl _) hb | replace hB := Below.next1 hB (Nat.le_refl _) hb | replace hB := Below.next2 hB (Nat.le_refl _) hb); (first | replace hM := Below.next hM (Nat.le_refl _) hb | replace hM := Below.next1 hM (Nat.le_refl _) hb | replace hM := Below.next2 hM (Nat.le_refl _) hb); have hN := Below.mid hb) | ((first | replace hB := Below.next hB (Nat.le_refl _) hb | replace hB := Below.next1 hB (Nat.le_refl _) hb | replace hB := Below.next2 hB (Nat.le_refl _) hb); (first | replace hM := Below.next hM (Nat.le_refl _) hb | replace hM := Below.next1 hM (Nat.le_refl _) hb | replace hM := Below.next2 hM (Nat.le_refl _) hb)) | ((first | replace hB := Below.next hB (Nat.le_refl _) hb | replace hB := Below.next1 hB (Nat.le_refl _) hb | replace hB := Below.next2 hB (Nat.le_refl _) hb); have hM := Below.mid hb) | (first | replace hB := Below.next hB (Nat.le_refl _) hb | replace hB := Below.next1 hB (Nat.le_refl _) hb | replace hB := Below.next2 hB (Nat.le_refl _) hb) | have hB := hb); obtain ⟨hc, hf, hz⟩ := after hB; (try (have hq := after hM; obtain ⟨hcM, hfM, hzM⟩ := hq)); (try (have hq := after hN; obtain ⟨hcN, hfN, hzN⟩ := hq)); have hs := hb.size; (try simp at hz); (try simp at hs))
  go_ret
  exact ⟨rfl, (by repeat (first | with_reducible exact Below.refl _ _ | with_reducible assumption | with_reducible refine Below.drew ?_ | with_reducible refine Below.setCell ?_ (by first | omega | (simp; omega) | simp) _ | with_reducible refine Below.alloc ?_ (by first | omega | (simp; omega) | simp) _ | with_reducible refine Below.trans ?_ (Below.mono (by with_reducible assumption) (by first | omega | (simp; omega) | simp))))⟩
theorem nearest_any (n : Int) (h1 : -80000000000 ≤ n) (h2 : n ≤ 142784000000) (w : World) : Calls Try.prog 68 #[.int .i64 n] w fun e w' => e = .returned (.int .i64 (nrst n)) ∧ Below w.heap.size w w' := by
  have hf := fun w => rfloordiv_any (n + 40000) 80000 (by omega) (by omega) (by omega) (by omega) w
  have hF := Lib.hid hf
  clear hf
  go_enter Try.func68, Try.ntmps68
  go_wp2_with (go_at_call 63; refine (hF.out _).mono ?_; rintro e w' ⟨rfl, hb⟩; (try clear hc hf); (try clear hcM hfM); (try clear hcN hfN); (first | ((first | replace hB := Below.next hB (Nat.le_refl _) hb | replace hB := Below.next1 hB (Nat.le_refl _) hb | replace hB := Below.next2 hB (Nat.le_refl _) hb); (first | replace hM := Below.next hM (Nat.le_refl _) hb | replace hM := Below.next1 hM (Nat.le_refl _) hb | replace hM := Below.next2 hM (Nat.le_refl _) hb); (first | replace hN := Below.next hN (Nat.le_refl _) hb | replace hN := Below.next1 hN (Nat.le_refl _) hb | replace hN := Below.next2 hN (Nat.le_refl _) hb)) | ((first | replace hB := Below.next hB (Nat.le_refl _) hb | replace hB := Below.next1 hB (Nat.le_refl _) hb | replace hB := Below.next2 hB (Nat.le_refl _) hb); (first | replace hM := Below.next hM (Nat.le_refl _) hb | replace hM := Below.next1 hM (Nat.le_refl _) hb | replace hM := Below.next2 hM (Nat.le_refl _) hb); have hN := Below.mid hb) | ((first | replace hB := Below.next hB (Nat.le_refl _) hb | replace hB := Below.next1 hB (Nat.le_refl _) hb | replace hB := Below.next2 hB (Nat.le_refl _) hb); (first | replace hM := Below.next hM (Nat.le_refl _) hb | replace hM := Below.next1 hM (Nat.le_refl _) hb | replace hM := Below.next2 hM (Nat.le_refl _) hb)) | ((first | replace hB := Below.next hB (Nat.le_refl _) hb | replace hB := Below.next1 hB (Nat.le_refl _) hb | replace hB := Below.next2 hB (Nat.le_refl _) hb); have hM := Below.mid hb) | (first | replace hB := Below.next hB (Nat.le_refl _) hb | replace hB := Below.next1 hB (Nat.le_refl _) hb | replace hB := Below.next2 hB (Nat.le_refl _) hb) | have hB := hb); obtain ⟨hc, hf, hz⟩ := after hB; (try (have hq := after hM; obtain ⟨hcM, hfM, hzM⟩ := hq)); (try (have hq := after hN; obtain ⟨hcN, hfN, hzN⟩ := hq)); have hs := hb.size; (try simp at hz); (try simp at hs))
  go_ret
  exact ⟨rfl, (by repeat (first | with_reducible exact Below.refl _ _ | with_reducible assumption | with_reducible refine Below.drew ?_ | with_reducible refine Below.setCell ?_ (by first | omega | (simp; omega) | simp) _ | with_reducible refine Below.alloc ?_ (by first | omega | (simp; omega) | simp) _ | with_reducible refine Below.trans ?_ (Below.mono (by with_reducible assumption) (by first | omega | (simp; omega) | simp))))⟩
end Go.Proofs.Ytcppgigndpepnaa
