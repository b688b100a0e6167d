/-
  Contracts of package delivery: together, Legal, Credited.
  Conditions: none.
-/
import Derived.Test.YtddadpjaammaiaaBase
namespace Go.Proofs.Ytddadpjaammaiaa
open Go.RowKit

def togB (ty so ru bo : Int) : Bool :=
  if ty = 2 then decide (so = 0) && decide (bo ≠ 6)
  else if so = 0 then decide (ru = 0) && decide (bo = 0)
  else if so = 1 then decide (bo ≠ 6) || decide (ru = 0)
  else decide (bo ≠ 6) && (decide (0 < ru) || decide (bo ≠ 0))

theorem together_any (ty so ru sh bo : Int) (cr : Bool) (ho vi fi se : Int) (su : Bool) (sc : Int) (w : World) : Calls Try.prog 20 #[.agg #[.int .u8 ty, .int .u8 so, .int .i64 ru, .int .i64 sh, .int .i64 bo, .bool cr, .int .u8 ho, .int .i64 vi, .int .i64 fi, .int .i64 se, .bool su, .int .i64 sc]] w fun e w' => e = .returned (.bool (togB ty so ru bo)) ∧ Below w.heap.size w w' := by
  go_enter Try.func20, Try.ntmps20
  go_wp2_with fail
  all_goals (go_ret; refine ⟨ret_bool ?_, (by repeat (first | with_reducible exact Below.refl _ _ | with_reducible assumption | with_reducible refine Below.drew ?_ | with_reducible refine Below.setCell ?_ (by first | omega | (simp; omega) | simp) _ | with_reducible refine Below.alloc ?_ (by first | omega | (simp; omega) | simp) _ | with_reducible refine Below.trans ?_ (Below.mono (by with_reducible assumption) (by first | omega | (simp; omega) | simp))))⟩; simp only [togB]; grind)

def legalV (ty so ru sh bo : Int) (cr : Bool) (ho sc : Int) : Int :=
  if ty < 1 ∨ 3 < ty ∨ 3 < so ∨ 10 < ho ∨ sc < 0 ∨ 8 < sc then 11
  else if ru < 0 ∨ 7 < ru ∨ sh < 0 ∨ ru < sh ∨ (bo ≠ 0 ∧ bo ≠ 4 ∧ bo ≠ 6) then 12
  else if togB ty so ru bo = false ∨ (ty ≠ 2 ∧ so = 1 ∧ ru = 0 ∧ bo = 0) then 11
  else if sc ≠ 0 ∧ so ≠ 1 ∧ ho ≠ 2 then 11
  else if bo ≠ 0 ∧ ho ≠ 0 then 11
  else if cr = true ∧ ho ≠ 6 ∧ ho ≠ 8 then 11 else 0

set_option maxHeartbeats 8000000 in
theorem legal_any (ty so ru sh bo : Int) (cr : Bool) (ho vi fi se : Int) (su : Bool) (sc : Int) (w : World) : Calls Try.prog 10 #[.agg #[.int .u8 ty, .int .u8 so, .int .i64 ru, .int .i64 sh, .int .i64 bo, .bool cr, .int .u8 ho, .int .i64 vi, .int .i64 fi, .int .i64 se, .bool su, .int .i64 sc]] w fun e w' => e = .returned (.int .i64 (legalV ty so ru sh bo cr ho sc)) ∧ Below w.heap.size w w' := by
  go_enter Try.func10, Try.ntmps10
  go_wp2_with (go_at_call 20; refine (together_any _ _ _ _ _ _ _ _ _ _ _ _ _).mono ?_; rintro e w' ⟨rfl, hb⟩; (try clear hc hf); (try clear hcM hfM); (try clear hcN hfN); (first | ((first | replace hB := Below.next hB (Nat.le_refl _) hb | replace hB := Below.next1 hB (Nat.le_refl _) hb | replace hB := Below.next2 hB (Nat.le_refl _) hb); (first | replace hM := Below.next hM (Nat.le_refl _) hb | replace hM := Below.next1 hM (Nat.le_refl _) hb | replace hM := Below.next2 hM (Nat.le_refl _) hb); (first | replace hN := Below.next hN (Nat.le_refl _) hb | replace hN := Below.next1 hN (Nat.le_refl _) hb | replace hN := Below.next2 hN (Nat.le_refl _) hb)) | ((first | replace hB := Below.next hB (Nat.le_refl _) hb | replace hB := Below.next1 hB (Nat.le_refl _) hb | replace hB := Below.next2 hB (Nat.le_refl _) hb); (first | replace hM := Below.next hM (Nat.le_refl _) hb | replace hM := Below.next1 hM (Nat.le_refl _) hb | replace hM := Below.next2 hM (Nat.le_refl _) hb); have hN := Below.mid hb) | ((first | replace hB := Below.next hB (Nat.le_refl _) hb | replace hB := Below.next1 hB (Nat.le_refl _) hb | replace hB := Below.next2 hB (Nat.le_refl _) hb); (first | replace hM := Below.next hM (Nat.le_refl _) hb | replace hM := Below.next1 hM (Nat.le_refl _) hb | replace hM := Below.next2 hM (Nat.le_refl _) hb)) | ((first | replace hB := Below.next hB (Nat.le_refl _) hb | replace hB := Below.next1 hB (Nat.le_refl _) hb | replace hB := Below.next2 hB (Nat.le_refl _) hb); have hM := Below.mid hb) | (first | replace hB := Below.next hB (Nat.le_refl _) hb | replace hB := Below.next1 hB (Nat.le_refl _) hb | replace hB := Below.next2 hB (Nat.le_refl _) hb) | have hB := hb); obtain ⟨hc, hf, hz⟩ := after hB; (try (have hq := after hM; obtain ⟨hcM, hfM, hzM⟩ := hq)); (try (have hq := after hN; obtain ⟨hcN, hfN, hzN⟩ := hq)); have hs := hb.size; (try simp at hz); (try simp at hs))
  all_goals (go_ret; refine ⟨ret_int ?_, (by repeat (first | with_reducible exact Below.refl _ _ | with_reducible assumption | with_reducible refine Below.drew ?_ | with_reducible refine Below.setCell ?_ (by first | omega | (simp; omega) | simp) _ | with_reducible refine Below.alloc ?_ (by first | omega | (simp; omega) | simp) _ | with_reducible refine Below.trans ?_ (Below.mono (by with_reducible assumption) (by first | omega | (simp; omega) | simp))))⟩; simp only [legalV]; grind)
end Go.Proofs.Ytddadpjaammaiaa
