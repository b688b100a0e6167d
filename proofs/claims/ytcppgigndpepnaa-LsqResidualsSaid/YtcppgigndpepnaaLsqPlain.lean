/-
  Lines of least squares in plain Lean: sums, bounds, the line found, its deviations.
  Conditions: none.
-/
import Derived.Test.YtcppgigndpepnaaBase
namespace Go.Proofs.Ytcppgigndpepnaa
open Go.RowKit

/-- A point: time and value. -/
abbrev PT := Int × Int
def okP (p : PT) : Bool := decide (0 ≤ p.1) && decide (p.1 ≤ 8000) && decide (-1000000 ≤ p.2) && decide (p.2 ≤ 1000000)
def ptsE (ps : List PT) : Int := if 64 < ps.length then 9 else if ps.length < 2 then 1 else if ps.all okP then 0 else 2
def sT : List PT → Int
  | [] => 0
  | p :: l => p.1 + sT l
def sQ : List PT → Int
  | [] => 0
  | p :: l => p.1 * p.1 + sQ l
def sV : List PT → Int
  | [] => 0
  | p :: l => p.2 + sV l
def sW : List PT → Int
  | [] => 0
  | p :: l => p.1 * p.2 + sW l
def fA (ps : List PT) : Int := sQ ps * sV ps - sT ps * sW ps
def fB (ps : List PT) : Int := ps.length * sW ps - sT ps * sV ps
def fD (ps : List PT) : Int := ps.length * sQ ps - sT ps * sT ps

theorem okP_iff {p : PT} (h : okP p = true) : (0 ≤ p.1 ∧ p.1 ≤ 8000) ∧ (-1000000 ≤ p.2 ∧ p.2 ≤ 1000000) := by
  simp [okP] at h; omega
theorem sT_app (a b : List PT) : sT (a ++ b) = sT a + sT b := by induction a with | nil => simp [sT] | cons p l ih => simp only [List.cons_append, sT, ih]; omega
theorem sQ_app (a b : List PT) : sQ (a ++ b) = sQ a + sQ b := by induction a with | nil => simp [sQ] | cons p l ih => simp only [List.cons_append, sQ, ih]; omega
theorem sV_app (a b : List PT) : sV (a ++ b) = sV a + sV b := by induction a with | nil => simp [sV] | cons p l ih => simp only [List.cons_append, sV, ih]; omega
theorem sW_app (a b : List PT) : sW (a ++ b) = sW a + sW b := by induction a with | nil => simp [sW] | cons p l ih => simp only [List.cons_append, sW, ih]; omega

/-- A product of bounded numbers is bounded. -/
theorem mul_bd {a b A B : Int} (h1 : -A ≤ a) (h2 : a ≤ A) (h3 : -B ≤ b) (h4 : b ≤ B) : -(A * B) ≤ a * b ∧ a * b ≤ A * B := by
  have hA : 0 ≤ A := by omega
  have hB : 0 ≤ B := by omega
  have e : (a * b).natAbs ≤ (A * B).natAbs := by
    rw [Int.natAbs_mul, Int.natAbs_mul]
    exact Nat.mul_le_mul (by omega) (by omega)
  have hAB : 0 ≤ A * B := Int.mul_nonneg hA hB
  omega
theorem sq_nonneg (a : Int) : 0 ≤ a * a := by
  rcases Int.le_total 0 a with h | h
  · exact Int.mul_nonneg h h
  · exact Int.mul_nonneg_of_nonpos_of_nonpos h h

theorem sums_bd (TT VV : Int) (hT : 0 ≤ TT) : ∀ ps : List PT, (∀ p ∈ ps, 0 ≤ p.1 ∧ p.1 ≤ TT ∧ -VV ≤ p.2 ∧ p.2 ≤ VV) →
    (0 ≤ sT ps ∧ sT ps ≤ ps.length * TT) ∧ (0 ≤ sQ ps ∧ sQ ps ≤ ps.length * (TT * TT)) ∧ (-(ps.length * VV) ≤ sV ps ∧ sV ps ≤ ps.length * VV) ∧ (-(ps.length * (TT * VV)) ≤ sW ps ∧ sW ps ≤ ps.length * (TT * VV)) := by
  intro ps
  induction ps with
  | nil => intro _; simp [sT, sQ, sV, sW]
  | cons p l ih =>
    intro h
    obtain ⟨⟨a1, a2⟩, ⟨b1, b2⟩, ⟨c1, c2⟩, d1, d2⟩ := ih (fun q hq => h q (by simp [hq]))
    obtain ⟨h1, h2, h3, h4⟩ := h p (by simp)
    have hq := mul_bd (A := TT) (B := TT) (a := p.1) (b := p.1) (by omega) h2 (by omega) h2
    have hw := mul_bd (A := TT) (B := VV) (a := p.1) (b := p.2) (by omega) h2 h3 h4
    have hq0 := sq_nonneg p.1
    simp only [sT, sQ, sV, sW, List.length_cons, Int.natCast_add, Int.natCast_one, Int.add_mul, Int.one_mul]
    omega

theorem pts_bd {ps : List PT} (h : ps.all okP = true) : (0 ≤ sT ps ∧ sT ps ≤ ps.length * 8000) ∧ (0 ≤ sQ ps ∧ sQ ps ≤ ps.length * 64000000) ∧ (-(ps.length * 1000000) ≤ sV ps ∧ sV ps ≤ ps.length * 1000000) ∧ (-(ps.length * 8000000000) ≤ sW ps ∧ sW ps ≤ ps.length * 8000000000) := by
  refine sums_bd 8000 1000000 (by omega) ps fun p hp => ?_
  have := okP_iff (List.all_eq_true.1 h p hp)
  omega

/-- The sum of the squares of the differences from a time. -/
def sD (t : Int) : List PT → Int
  | [] => 0
  | p :: l => (p.1 - t) * (p.1 - t) + sD t l
theorem sD_nonneg (t : Int) (ps : List PT) : 0 ≤ sD t ps := by
  induction ps with
  | nil => simp [sD]
  | cons p l ih => have := sq_nonneg (p.1 - t); simp only [sD]; omega
theorem sD_eq (t : Int) (ps : List PT) : sD t ps = sQ ps + ps.length * (t * t) - 2 * t * sT ps := by
  induction ps with
  | nil => simp [sD, sQ, sT]
  | cons p l ih => simp only [sD, sQ, sT, ih, List.length_cons, Int.natCast_add, Int.natCast_one]; grind
theorem fD_nonneg (ps : List PT) : 0 ≤ fD ps := by
  induction ps with
  | nil => simp [fD, sQ, sT]
  | cons p l ih =>
    have h := sD_nonneg p.1 l
    rw [sD_eq] at h
    simp only [fD, sQ, sT, List.length_cons, Int.natCast_add, Int.natCast_one] at ih ⊢
    grind

/-- What is accepted as a line. -/
def okL (A B D : Int) : Bool := decide (1 ≤ D) && decide (D ≤ 1099511627776) && (decide (-1152921504606846976 ≤ A) && decide (A ≤ 1152921504606846976)) && (decide (-70368744177664 ≤ B) && decide (B ≤ 70368744177664))
theorem okL_iff {A B D : Int} (h : okL A B D = true) : (1 ≤ D ∧ D ≤ 1099511627776) ∧ (-1152921504606846976 ≤ A ∧ A ≤ 1152921504606846976) ∧ (-70368744177664 ≤ B ∧ B ≤ 70368744177664) := by
  simp [okL] at h; omega

/-- The bounds of the products behind a line, for points that are accepted. -/
theorem line_bd {ps : List PT} (h : ptsE ps = 0) :
    (-262144000000000000 ≤ sQ ps * sV ps ∧ sQ ps * sV ps ≤ 262144000000000000) ∧ (-262144000000000000 ≤ sT ps * sW ps ∧ sT ps * sW ps ≤ 262144000000000000) ∧
    (-32768000000000 ≤ ps.length * sW ps ∧ ps.length * sW ps ≤ 32768000000000) ∧ (-32768000000000 ≤ sT ps * sV ps ∧ sT ps * sV ps ≤ 32768000000000) ∧
    (0 ≤ ps.length * sQ ps ∧ ps.length * sQ ps ≤ 262144000000) ∧ (0 ≤ sT ps * sT ps ∧ sT ps * sT ps ≤ 262144000000) := by
  unfold ptsE at h
  split at h
  · omega
  · split at h
    · omega
    · split at h
      · rename_i h1 h2 h3
        obtain ⟨⟨a1, a2⟩, ⟨b1, b2⟩, ⟨c1, c2⟩, d1, d2⟩ := pts_bd h3
        have p1 := mul_bd (A := 4096000000) (B := 64000000) (a := sQ ps) (b := sV ps) (by omega) (by omega) (by omega) (by omega)
        have p2 := mul_bd (A := 512000) (B := 512000000000) (a := sT ps) (b := sW ps) (by omega) (by omega) (by omega) (by omega)
        have p3 := mul_bd (A := 64) (B := 512000000000) (a := (ps.length : Int)) (b := sW ps) (by omega) (by omega) (by omega) (by omega)
        have p4 := mul_bd (A := 512000) (B := 64000000) (a := sT ps) (b := sV ps) (by omega) (by omega) (by omega) (by omega)
        have p5 := mul_bd (A := 64) (B := 4096000000) (a := (ps.length : Int)) (b := sQ ps) (by omega) (by omega) (by omega) (by omega)
        have p6 := mul_bd (A := 512000) (B := 512000) (a := sT ps) (b := sT ps) (by omega) (by omega) (by omega) (by omega)
        have q5 : 0 ≤ (ps.length : Int) * sQ ps := Int.mul_nonneg (by omega) b1
        have q6 := sq_nonneg (sT ps)
        omega
      · omega

/-- The line that is found is accepted as a line. -/
theorem line_ok {ps : List PT} (h : ptsE ps = 0) (hD : fD ps ≠ 0) : okL (fA ps) (fB ps) (fD ps) = true := by
  have hb := line_bd h
  have h0 := fD_nonneg ps
  simp only [fA, fB, fD] at *
  simp only [okL, Bool.and_eq_true, decide_eq_true_eq]
  omega

/-- The deviation of a point, times the denominator. -/
def dev (A B D : Int) (p : PT) : Int := D * p.2 - A - B * p.1
def sDev (A B D : Int) : List PT → Int
  | [] => 0
  | p :: l => dev A B D p + sDev A B D l
def sMom (A B D : Int) : List PT → Int
  | [] => 0
  | p :: l => dev A B D p * p.1 + sMom A B D l
def sSq (A B D : Int) : List PT → Int
  | [] => 0
  | p :: l => dev A B D p * dev A B D p + sSq A B D l
theorem sDev_eq (A B D : Int) (ps : List PT) : sDev A B D ps = D * sV ps - ps.length * A - B * sT ps := by
  induction ps with
  | nil => simp [sDev, sV, sT]
  | cons p l ih => simp only [sDev, dev, sV, sT, ih, List.length_cons, Int.natCast_add, Int.natCast_one]; grind
theorem sMom_eq (A B D : Int) (ps : List PT) : sMom A B D ps = D * sW ps - A * sT ps - B * sQ ps := by
  induction ps with
  | nil => simp [sMom, sW, sT, sQ]
  | cons p l ih => simp only [sMom, dev, sW, sT, sQ, ih]; grind
theorem best_dev (ps : List PT) : sDev (fA ps) (fB ps) (fD ps) ps = 0 := by rw [sDev_eq]; simp only [fA, fB, fD]; grind
theorem best_mom (ps : List PT) : sMom (fA ps) (fB ps) (fD ps) ps = 0 := by rw [sMom_eq]; simp only [fA, fB, fD]; grind
theorem sSq_nonneg (A B D : Int) (ps : List PT) : 0 ≤ sSq A B D ps := by
  induction ps with
  | nil => simp [sSq]
  | cons p l ih => have := sq_nonneg (dev A B D p); simp only [sSq]; omega
/-- Squares of a line's deviations, against those of another line. -/
theorem sSq_other (A B D A' B' D' : Int) (ps : List PT) : D * D * sSq A' B' D' ps = D' * D' * sSq A B D ps + 2 * D' * ((D' * A - D * A') * sDev A B D ps + (D' * B - D * B') * sMom A B D ps) + sSq (D * A' - D' * A) (D * B' - D' * B) 0 ps := by
  induction ps with
  | nil => simp [sSq, sDev, sMom]
  | cons p l ih => simp only [sSq, sDev, sMom, dev] at ih ⊢; grind
theorem best_least (ps : List PT) (A' B' D' : Int) : D' * D' * sSq (fA ps) (fB ps) (fD ps) ps ≤ fD ps * fD ps * sSq A' B' D' ps := by
  have h := sSq_other (fA ps) (fB ps) (fD ps) A' B' D' ps
  rw [best_dev, best_mom] at h
  have h0 := sSq_nonneg (fD ps * A' - D' * fA ps) (fD ps * B' - D' * fB ps) 0 ps
  simp only [Int.mul_zero, Int.add_zero] at h
  omega
end Go.Proofs.Ytcppgigndpepnaa
