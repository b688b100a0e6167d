/-
  Drawn paths in plain Lean: gravity taken out, the three lines, places.
  Conditions: none.
-/
import Derived.Test.YtmdledlbkdcmnaaSeenPlain
import Derived.Test.YtmdledlbkdcmnaaAt
namespace Go.Proofs.Ytmdledlbkdcmnaa
open Go.RowKit
def raiseV (t z : Int) : Int := if t < 0 ∨ 8000 < t ∨ z < -1000000 ∨ 1000000 < z then 0 else z * 80000 + 981 * t * t
def nrst (n : Int) : Int := (n + 40000) / 80000
theorem nrst_two (n : Int) : (2 * n + 80000) / 160000 = nrst n := by unfold nrst; omega
theorem grav_bd {t : Int} (h1 : 0 ≤ t) (h2 : t ≤ 8000) : 0 ≤ 981 * t * t ∧ 981 * t * t ≤ 62784000000 := by
  have q := mul_bd (A := 8000) (B := 8000) (a := t) (b := t) (by omega) (by omega) (by omega) (by omega)
  have q0 := sq_nonneg t
  have e : 981 * t * t = 981 * (t * t) := by grind
  omega
theorem raise_bd (t z : Int) : -80000000000 ≤ raiseV t z ∧ raiseV t z ≤ 142784000000 := by
  unfold raiseV
  split
  · omega
  · have := grav_bd (t := t) (by omega) (by omega); omega
theorem nrst_bd {n : Int} (h1 : -80000000000 ≤ n) (h2 : n ≤ 142784000000) : -1000000 ≤ nrst n ∧ nrst n ≤ 1784801 := by unfold nrst; omega
/-- Times and values of the three lines. -/
def tX (s : SN) : PT := (s.1, s.2.1)
def tY (s : SN) : PT := (s.1, s.2.2.1)
def tZ (s : SN) : PT := (s.1, nrst (raiseV s.1 s.2.2.2.1))
theorem okS_pts {s : SN} (h : okS s = true) : okP (tX s) = true ∧ okP (tY s) = true ∧ okP (tZ s) = true := by
  obtain ⟨⟨a1, a2⟩, ⟨b1, b2⟩, ⟨c1, c2⟩, ⟨d1, d2⟩, e1, e2⟩ := okS_iff.1 h
  have hr : 0 ≤ raiseV s.1 s.2.2.2.1 ∧ raiseV s.1 s.2.2.2.1 ≤ 4000000000 + 62784000000 := by
    unfold raiseV
    have := grav_bd (t := s.1) (by omega) (by omega)
    split <;> omega
  have hn : 0 ≤ nrst (raiseV s.1 s.2.2.2.1) ∧ nrst (raiseV s.1 s.2.2.2.1) ≤ 1000000 := by unfold nrst; omega
  simp only [tX, tY, tZ]
  simp [okP]
  omega
theorem map_ok {l : List SN} {f : SN → PT} (h : ∀ s ∈ l, okP (f s) = true) : (l.map f).all okP = true := by
  rw [List.all_eq_true]
  intro p hp
  obtain ⟨s, hs, rfl⟩ := List.mem_map.1 hp
  exact h s hs
theorem ptsE_map {l : List SN} {f : SN → PT} (h : ∀ s ∈ l, okP (f s) = true) (hl : l.length ≤ 64) : ptsE (l.map f) = if l.length < 2 then 1 else 0 := by
  unfold ptsE
  rw [List.length_map, if_neg (by omega), map_ok h]
  rfl
theorem fD_map {l : List SN} {f g : SN → PT} (h : ∀ s, (f s).1 = (g s).1) : fD (l.map f) = fD (l.map g) := by
  have hT : ∀ l : List SN, sT (l.map f) = sT (l.map g) := by
    intro l; induction l with
    | nil => rfl
    | cons s l ih => simp only [List.map_cons, sT, ih, h]
  have hQ : ∀ l : List SN, sQ (l.map f) = sQ (l.map g) := by
    intro l; induction l with
    | nil => rfl
    | cons s l ih => simp only [List.map_cons, sQ, ih, h]
  unfold fD; rw [hT, hQ, List.length_map, List.length_map]
/-- The error of the lines through the observations behind the bounce. -/
def lnE (l : List SN) : Int := if l.length < 2 then 1 else if fD (l.map tX) = 0 then 14 else 0
def fitE (l : List SN) : Int := if chkE l ≠ 0 then chkE l else lnE (bhdL l)
def lnV (l : List SN) (f : SN → PT) : Value := if lnE l = 0 then .agg #[.int .i64 (fA (l.map f)), .int .i64 (fB (l.map f)), .int .i64 (fD (l.map f))] else .agg #[.int .i64 0, .int .i64 0, .int .i64 0]
theorem lineV_map {l : List SN} {f : SN → PT} (hf : ∀ s, (f s).1 = s.1) (h : ∀ s ∈ l, okP (f s) = true) (hl : l.length ≤ 64) : lineV (l.map f) = .tuple #[lnV l f, .int .i64 (lnE l)] := by
  have hd : fD (l.map f) = fD (l.map tX) := fD_map (fun s => (hf s).trans rfl)
  unfold lineV lnV lnE
  rw [ptsE_map h hl, hd]
  by_cases h2 : l.length < 2
  · simp [h2]
  · by_cases h3 : fD (l.map tX) = 0
    · simp [h2, h3]
    · simp [h2, h3]
/-- What Fit gives. -/
def fitV (l : List SN) : Value := if fitE l = 0 then .tuple #[.agg #[.int .i64 (fA ((bhdL l).map tX)), .int .i64 (fB ((bhdL l).map tX)), .int .i64 (fD ((bhdL l).map tX)), .int .i64 (fA ((bhdL l).map tY)), .int .i64 (fB ((bhdL l).map tY)), .int .i64 (fD ((bhdL l).map tY)), .int .i64 (fA ((bhdL l).map tZ)), .int .i64 (fB ((bhdL l).map tZ)), .int .i64 (fD ((bhdL l).map tZ))], .int .i64 0] else .tuple #[.agg #[.int .i64 0, .int .i64 0, .int .i64 0, .int .i64 0, .int .i64 0, .int .i64 0, .int .i64 0, .int .i64 0, .int .i64 0], .int .i64 (fitE l)]
theorem lnV_ok {l : List SN} {f : SN → PT} (h : lnE l = 0) : lnV l f = .agg #[.int .i64 (fA (l.map f)), .int .i64 (fB (l.map f)), .int .i64 (fD (l.map f))] := by unfold lnV; rw [if_pos h]
theorem lnV_bad {l : List SN} {f : SN → PT} (h : lnE l ≠ 0) : lnV l f = .agg #[.int .i64 0, .int .i64 0, .int .i64 0] := by unfold lnV; rw [if_neg h]
/-- A line at a time: the error. -/
def atE (A B D t : Int) : Int := if okL A B D = true then (if t < 0 ∨ 8000 < t then 2 else 0) else 1
def vAt (A B D t : Int) : Int := (2 * (A + B * t) + D) / (2 * D)
theorem atV_ok {A B D t : Int} (h : atE A B D t = 0) : atV A B D t = .tuple #[.int .i64 (vAt A B D t), .int .i64 0] := by
  unfold atE at h
  split at h
  · split at h
    · omega
    · rename_i h1 h2; unfold atV vAt; rw [if_pos h1, if_neg h2]
  · omega
theorem atV_bad {A B D t : Int} (h : atE A B D t ≠ 0) : atV A B D t = .tuple #[.int .i64 0, .int .i64 (atE A B D t)] := by
  unfold atE at h ⊢
  unfold atV
  split at h
  · split at h
    · rename_i h1 h2; rw [if_pos h1, if_pos h2, if_pos h1, if_pos h2]
    · omega
  · rename_i h1; rw [if_neg h1, if_neg h1]
theorem atE_zero {A B D t : Int} (h : atE A B D t = 0) : okL A B D = true ∧ 0 ≤ t ∧ t ≤ 8000 := by
  unfold atE at h
  split at h
  · split at h
    · omega
    · rename_i h1 h2; exact ⟨h1, by omega, by omega⟩
  · omega
/-- The place of a drawn path at a time: the error; all that is returned. -/
def plE (a1 b1 d1 a2 b2 d2 a3 b3 d3 t : Int) : Int := if atE a1 b1 d1 t ≠ 0 then atE a1 b1 d1 t else if atE a2 b2 d2 t ≠ 0 then atE a2 b2 d2 t else atE a3 b3 d3 t
def plV (a1 b1 d1 a2 b2 d2 a3 b3 d3 t : Int) : Value := if plE a1 b1 d1 a2 b2 d2 a3 b3 d3 t = 0 then .tuple #[.int .i64 (vAt a1 b1 d1 t), .int .i64 (vAt a2 b2 d2 t), .int .i64 (vAt a3 b3 d3 t - nrst (981 * t * t)), .int .i64 0] else .tuple #[.int .i64 0, .int .i64 0, .int .i64 0, .int .i64 (plE a1 b1 d1 a2 b2 d2 a3 b3 d3 t)]
theorem plV_1 {a1 b1 d1 t : Int} (a2 b2 d2 a3 b3 d3 : Int) (h : atE a1 b1 d1 t ≠ 0) : plV a1 b1 d1 a2 b2 d2 a3 b3 d3 t = .tuple #[.int .i64 0, .int .i64 0, .int .i64 0, .int .i64 (atE a1 b1 d1 t)] := by
  have e : plE a1 b1 d1 a2 b2 d2 a3 b3 d3 t = atE a1 b1 d1 t := by unfold plE; rw [if_pos h]
  unfold plV; rw [e, if_neg h]
theorem plV_2 {a1 b1 d1 a2 b2 d2 t : Int} (a3 b3 d3 : Int) (h1 : atE a1 b1 d1 t = 0) (h : atE a2 b2 d2 t ≠ 0) : plV a1 b1 d1 a2 b2 d2 a3 b3 d3 t = .tuple #[.int .i64 0, .int .i64 0, .int .i64 0, .int .i64 (atE a2 b2 d2 t)] := by
  have e : plE a1 b1 d1 a2 b2 d2 a3 b3 d3 t = atE a2 b2 d2 t := by unfold plE; rw [if_neg (by omega), if_pos h]
  unfold plV; rw [e, if_neg h]
theorem plV_3 {a1 b1 d1 a2 b2 d2 a3 b3 d3 t : Int} (h1 : atE a1 b1 d1 t = 0) (h2 : atE a2 b2 d2 t = 0) (h : atE a3 b3 d3 t ≠ 0) : plV a1 b1 d1 a2 b2 d2 a3 b3 d3 t = .tuple #[.int .i64 0, .int .i64 0, .int .i64 0, .int .i64 (atE a3 b3 d3 t)] := by
  have e : plE a1 b1 d1 a2 b2 d2 a3 b3 d3 t = atE a3 b3 d3 t := by unfold plE; rw [if_neg (by omega), if_neg (by omega)]
  unfold plV; rw [e, if_neg h]
theorem plV_ok {a1 b1 d1 a2 b2 d2 a3 b3 d3 t : Int} (h1 : atE a1 b1 d1 t = 0) (h2 : atE a2 b2 d2 t = 0) (h3 : atE a3 b3 d3 t = 0) : plV a1 b1 d1 a2 b2 d2 a3 b3 d3 t = .tuple #[.int .i64 (vAt a1 b1 d1 t), .int .i64 (vAt a2 b2 d2 t), .int .i64 (vAt a3 b3 d3 t - nrst (981 * t * t)), .int .i64 0] := by
  have e : plE a1 b1 d1 a2 b2 d2 a3 b3 d3 t = 0 := by unfold plE; rw [if_neg (by omega), if_neg (by omega), h3]
  unfold plV; rw [if_pos e]
theorem vAt_bd {A B D t : Int} (h : okL A B D = true) (h1 : 0 ≤ t) (h2 : t ≤ 8000) : -1715871458028158977 ≤ vAt A B D t ∧ vAt A B D t ≤ 1715871458028158977 := by
  obtain ⟨⟨d1, d2⟩, ⟨a1, a2⟩, b1, b2⟩ := okL_iff h
  obtain ⟨m1, m2⟩ := at_bd h h1 h2
  have e : (2 * (A + B * t) + D) = D * 1 + 2 * (A + B * t) := by omega
  unfold vAt
  have hd : (0 : Int) < 2 * D := by omega
  constructor
  · exact Int.le_ediv_of_mul_le hd (by
      have : -1715871458028158977 * (2 * D) ≤ -1715871458028158977 * 2 := by omega
      omega)
  · have : (2 * (A + B * t) + D) / (2 * D) < 1715871458028158978 := Int.ediv_lt_of_lt_mul hd (by
      have : 1715871458028158978 * 2 ≤ 1715871458028158978 * (2 * D) := by omega
      omega)
    omega
end Go.Proofs.Ytmdledlbkdcmnaa
