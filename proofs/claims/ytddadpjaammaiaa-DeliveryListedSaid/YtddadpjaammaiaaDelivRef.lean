/-
  Contracts of the reference's delivery: in, together, Legal.
  Conditions: none.
-/
import Derived.Test.YtddadpjaammaiaaDeliv
namespace Go.Proofs.Ytddadpjaammaiaa
open Go.RowKit

def inB (n lo hi : Int) : Bool := decide (lo ≤ n) && decide (n ≤ hi)
theorem in_any (n lo hi : Int) (w : World) : Calls Try.prog 21 #[.int .i64 n, .int .i64 lo, .int .i64 hi] w fun e w' => e = .returned (.bool (inB n lo hi)) ∧ w = w' := by
  go_enter Try.func21, Try.ntmps21
  go_wp2_with fail
  all_goals (go_ret; refine ⟨ret_bool ?_, rfl⟩; simp only [inB]; grind)

/-- As the reference has it. -/
def rtogB (ty so ru bo : Int) : Bool :=
  if ty = 2 then decide (so = 0) && decide (bo ≠ 6)
  else if so = 0 then decide (ru = 0) && decide (bo = 0)
  else if bo = 0 then decide (0 < ru)
  else if bo = 6 then decide (so = 1) && decide (ru = 0)
  else true

theorem rtogether_any (ty so ru sh bo : Int) (cr : Bool) (ho vi fi se : Int) (su : Bool) (sc : Int) (w : World) : Calls Try.prog 22 #[.agg #[.int .u8 ty, .int .u8 so, .int .i64 ru, .int .i64 sh, .int .i64 bo, .bool cr, .int .u8 ho, .int .i64 vi, .int .i64 fi, .int .i64 se, .bool su, .int .i64 sc]] w fun e w' => e = .returned (.bool (rtogB ty so ru bo)) ∧ Below w.heap.size w w' := by
  go_enter Try.func22, Try.ntmps22
  go_wp2_with fail
  all_goals (go_ret; refine ⟨ret_bool ?_, (by repeat (first | with_reducible exact Below.refl _ _ | with_reducible assumption | with_reducible refine Below.drew ?_ | with_reducible refine Below.setCell ?_ (by first | omega | (simp; omega) | simp) _ | with_reducible refine Below.alloc ?_ (by first | omega | (simp; omega) | simp) _ | with_reducible refine Below.trans ?_ (Below.mono (by with_reducible assumption) (by first | omega | (simp; omega) | simp))))⟩; simp only [rtogB]; grind)

def rlegalV (ty so ru sh bo : Int) (cr : Bool) (ho sc : Int) : Int :=
  if ty < 1 ∨ 3 < ty ∨ 3 < so ∨ 10 < ho ∨ inB sc 0 8 = false then 11
  else if inB ru 0 7 = false ∨ inB sh 0 ru = false ∨ (bo ≠ 0 ∧ bo ≠ 4 ∧ bo ≠ 6) then 12
  else if rtogB ty so ru bo = false then 11
  else if sc ≠ 0 ∧ so ≠ 1 ∧ ho ≠ 2 then 11
  else if bo ≠ 0 ∧ ho ≠ 0 then 11
  else if cr = true ∧ ho ≠ 6 ∧ ho ≠ 8 then 11 else 0

theorem legal_eq (ty so ru sh bo : Int) (cr : Bool) (ho sc : Int) (h : 0 ≤ so) : rlegalV ty so ru sh bo cr ho sc = legalV ty so ru sh bo cr ho sc := by
  have e1 : inB sc 0 8 = false ↔ sc < 0 ∨ 8 < sc := by simp only [inB]; grind
  have e2 : inB ru 0 7 = false ↔ ru < 0 ∨ 7 < ru := by simp only [inB]; grind
  have e3 : inB sh 0 ru = false ↔ sh < 0 ∨ ru < sh := by simp only [inB]; grind
  unfold rlegalV legalV
  simp only [e1, e2, e3]
  by_cases c1 : ty < 1 ∨ 3 < ty ∨ 3 < so ∨ 10 < ho ∨ sc < 0 ∨ 8 < sc
  · rw [if_pos c1, if_pos c1]
  · rw [if_neg c1, if_neg c1]
    by_cases c2 : ru < 0 ∨ 7 < ru ∨ sh < 0 ∨ ru < sh ∨ (bo ≠ 0 ∧ bo ≠ 4 ∧ bo ≠ 6)
    · rw [if_pos (by omega), if_pos c2]
    · rw [if_neg (by omega), if_neg c2]
      have e4 : rtogB ty so ru bo = false ↔ (togB ty so ru bo = false ∨ (ty ≠ 2 ∧ so = 1 ∧ ru = 0 ∧ bo = 0)) := by
        have h3 : so = 0 ∨ so = 1 ∨ so = 2 ∨ so = 3 := by omega
        have h4 : bo = 0 ∨ bo = 4 ∨ bo = 6 := by omega
        unfold rtogB togB
        by_cases h5 : ty = 2
        · simp only [h5, if_true]; grind
        · simp only [h5, if_false]
          rcases h3 with rfl | rfl | rfl | rfl <;> rcases h4 with rfl | rfl | rfl <;> simp <;> omega
      simp only [e4]

set_option maxHeartbeats 8000000 in
theorem rlegal_any (ty so ru sh bo : Int) (cr : Bool) (ho vi fi se : Int) (su : Bool) (sc : Int) (w : World) (hso : 0 ≤ so) : Calls Try.prog 11 #[.agg #[.int .u8 ty, .int .u8 so, .int .i64 ru, .int .i64 sh, .int .i64 bo, .bool cr, .int .u8 ho, .int .i64 vi, .int .i64 fi, .int .i64 se, .bool su, .int .i64 sc]] w fun e w' => e = .returned (.int .i64 (legalV ty so ru sh bo cr ho sc)) ∧ Below w.heap.size w w' := by
  rw [← legal_eq ty so ru sh bo cr ho sc hso]
  go_enter Try.func11, Try.ntmps11
  go_wp2_with (first | (go_at_call 22; refine (rtogether_any _ _ _ _ _ _ _ _ _ _ _ _ _).mono ?_; rintro e w' ⟨rfl, hb⟩; (try clear hc hf); (try clear hcM hfM); (try clear hcN hfN); (first | ((first | replace hB := Below.next hB (Nat.le_refl _) hb | replace hB := Below.next1 hB (Nat.le_refl _) hb | replace hB := Below.next2 hB (Nat.le_refl _) hb); (first | replace hM := Below.next hM (Nat.le_refl _) hb | replace hM := Below.next1 hM (Nat.le_refl _) hb | replace hM := Below.next2 hM (Nat.le_refl _) hb); (first | replace hN := Below.next hN (Nat.le_refl _) hb | replace hN := Below.next1 hN (Nat.le_refl _) hb | replace hN := Below.next2 hN (Nat.le_refl _) hb)) | ((first | replace hB := Below.next hB (Nat.le_refl _) hb | replace hB := Below.next1 hB (Nat.le_refl _) hb | replace hB := Below.next2 hB (Nat.le_refl _) hb); (first | replace hM := Below.next hM (Nat.le_refl _) hb | replace hM := Below.next1 hM (Nat.le_refl _) hb | replace hM := Below.next2 hM (Nat.le_refl _) hb); have hN := Below.mid hb) | ((first | replace hB := Below.next hB (Nat.le_refl _) hb | replace hB := Below.next1 hB (Nat.le_refl _) hb | replace hB := Below.next2 hB (Nat.le_refl _) hb); (first | replace hM := Below.next hM (Nat.le_refl _) hb | replace hM := Below.next1 hM (Nat.le_refl _) hb | replace hM := Below.next2 hM (Nat.le_refl _) hb)) | ((first | replace hB := Below.next hB (Nat.le_refl _) hb | replace hB := Below.next1 hB (Nat.le_refl _) hb | replace hB := Below.next2 hB (Nat.le_refl _) hb); have hM := Below.mid hb) | (first | replace hB := Below.next hB (Nat.le_refl _) hb | replace hB := Below.next1 hB (Nat.le_refl _) hb | replace hB := Below.next2 hB (Nat.le_refl _) hb) | have hB := hb); obtain ⟨hc, hf, hz⟩ := after hB; (try (have hq := after hM; obtain ⟨hcM, hfM, hzM⟩ := hq)); (try (have hq := after hN; obtain ⟨hcN, hfN, hzN⟩ := hq)); have hs := hb.size; (try simp at hz); (try simp at hs)) | (go_at_call 21; refine (in_any _ _ _ _).mono ?_; rintro e w' ⟨rfl, rfl⟩))
  all_goals (go_ret; refine ⟨ret_int ?_, (by repeat (first | with_reducible exact Below.refl _ _ | with_reducible assumption | with_reducible refine Below.drew ?_ | with_reducible refine Below.setCell ?_ (by first | omega | (simp; omega) | simp) _ | with_reducible refine Below.alloc ?_ (by first | omega | (simp; omega) | simp) _ | with_reducible refine Below.trans ?_ (Below.mono (by with_reducible assumption) (by first | omega | (simp; omega) | simp))))⟩; simp only [rlegalV]; grind)
end Go.Proofs.Ytddadpjaammaiaa
