/-
  Contract of Line, ours and the reference's.
  Conditions: none.
-/
import Derived.Test.YtmdledlbkdcmnaaPts
import Derived.Test.YtmdledlbkdcmnaaStill
namespace Go.Proofs.Ytmdledlbkdcmnaa
open Go.RowKit
def lineV (ps : List PT) : Value := if ptsE ps ≠ 0 then .tuple #[.agg #[.int .i64 0, .int .i64 0, .int .i64 0], .int .i64 (ptsE ps)] else if fD ps = 0 then .tuple #[.agg #[.int .i64 0, .int .i64 0, .int .i64 0], .int .i64 14] else .tuple #[.agg #[.int .i64 (fA ps), .int .i64 (fB ps), .int .i64 (fD ps)], .int .i64 0]
theorem ptsE_all {ps : List PT} (h : ptsE ps = 0) : ps.all okP = true ∧ ps.length ≤ 64 ∧ 2 ≤ ps.length := by
  unfold ptsE at h
  split at h
  · omega
  · split at h
    · omega
    · split at h
      · rename_i h1 h2 h3; exact ⟨h3, by omega, by omega⟩
      · omega
theorem lineV_e {ps : List PT} (h : ptsE ps ≠ 0) : lineV ps = .tuple #[.agg #[.int .i64 0, .int .i64 0, .int .i64 0], .int .i64 (ptsE ps)] := by unfold lineV; rw [if_pos h]
theorem lineV_s {ps : List PT} (h : ptsE ps = 0) (hd : fD ps = 0) : lineV ps = .tuple #[.agg #[.int .i64 0, .int .i64 0, .int .i64 0], .int .i64 14] := by unfold lineV; rw [if_neg (fun h' => h' h), if_pos hd]
theorem lineV_ok {ps : List PT} (h : ptsE ps = 0) (hd : fD ps ≠ 0) : lineV ps = .tuple #[.agg #[.int .i64 (fA ps), .int .i64 (fB ps), .int .i64 (fD ps)], .int .i64 0] := by unfold lineV; rw [if_neg (fun h' => h' h), if_neg hd]
theorem of_t {a b : Int} (h : (a == b) = true) : a = b := by simpa using h
theorem of_f {a b : Int} (h : (a == b) = false) : a ≠ b := by simpa using h
theorem sums_next {ps : List PT} {i : Nat} {p : PT} (hp : ps[i]? = some p) : sT (ps.take (i + 1)) = sT (ps.take i) + p.1 ∧ sQ (ps.take (i + 1)) = sQ (ps.take i) + p.1 * p.1 ∧ sV (ps.take (i + 1)) = sV (ps.take i) + p.2 ∧ sW (ps.take (i + 1)) = sW (ps.take i) + p.1 * p.2 := by
  rw [List.take_add_one, hp]
  simp [sT_app, sQ_app, sV_app, sW_app, sT, sQ, sV, sW]
theorem take_bd {ps : List PT} (h : ptsE ps = 0) (i : Nat) : (0 ≤ sT (ps.take i) ∧ sT (ps.take i) ≤ 512000) ∧ (0 ≤ sQ (ps.take i) ∧ sQ (ps.take i) ≤ 4096000000) ∧ (-64000000 ≤ sV (ps.take i) ∧ sV (ps.take i) ≤ 64000000) ∧ (-512000000000 ≤ sW (ps.take i) ∧ sW (ps.take i) ≤ 512000000000) := by
  obtain ⟨h1, h2, _⟩ := ptsE_all h
  have hk : (ps.take i).all okP = true := List.all_eq_true.2 fun p hp => List.all_eq_true.1 h1 p (List.mem_of_mem_take hp)
  have hl : (ps.take i).length ≤ 64 := by rw [List.length_take]; omega
  have := pts_bd hk
  omega
theorem pt_bd {ps : List PT} (h : ptsE ps = 0) {i : Nat} {p : PT} (hp : ps[i]? = some p) : (0 ≤ p.1 ∧ p.1 ≤ 8000) ∧ (-1000000 ≤ p.2 ∧ p.2 ≤ 1000000) ∧ (0 ≤ p.1 * p.1 ∧ p.1 * p.1 ≤ 64000000) ∧ (-8000000000 ≤ p.1 * p.2 ∧ p.1 * p.2 ≤ 8000000000) := by
  obtain ⟨h1, _⟩ := ptsE_all h
  have hk := okP_iff (List.all_eq_true.1 h1 p (List.mem_of_getElem? hp))
  have q1 := mul_bd (A := 8000) (B := 8000) (a := p.1) (b := p.1) (by omega) (by omega) (by omega) (by omega)
  have q2 := mul_bd (A := 8000) (B := 1000000) (a := p.1) (b := p.2) (by omega) (by omega) (by omega) (by omega)
  have q3 := sq_nonneg p.1
  omega

end Go.Proofs.Ytmdledlbkdcmnaa
