/-
  The list of all plain deliveries, in plain Lean.
  Conditions: none.
-/
import Derived.Test.YtddadpjaammaiaaDeliv
namespace Go.Proofs.Ytddadpjaammaiaa
open Go.RowKit

/-- A plain delivery: type, source, runs, boundary. -/
abbrev PD := Int × Int × Int × Int
def okD (d : PD) : Bool := legalV d.1 d.2.1 d.2.2.1 0 d.2.2.2 false 0 0 == 0
def pick (t s n b : Int) : List PD := if okD (t, s, n, b) then [(t, s, n, b)] else []
def ballL (t s n : Int) : List PD := pick t s n 0 ++ pick t s n 4 ++ pick t s n 6
def runsL (t s : Int) : Nat → List PD
  | 0 => []
  | n + 1 => runsL t s n ++ ballL t s n
def srcL (t : Int) (m : Nat) : Nat → List PD
  | 0 => []
  | s + 1 => srcL t m s ++ runsL t s m
def tyL (m : Nat) : Nat → List PD
  | 0 => []
  | t + 1 => tyL m t ++ srcL (t + 1 : Nat) m 4
def allL (m : Nat) : List PD := tyL m 3

theorem allL_1 : (allL 1).length = 12 := by decide +kernel
theorem allL_2 : (allL 2).length = 26 := by decide +kernel

theorem pick_bd (t s n b : Int) : (pick t s n b).length ≤ 1 := by unfold pick; split <;> simp
theorem ballL_bd (t s n : Int) : (ballL t s n).length ≤ 3 := by
  have := pick_bd t s n 0; have := pick_bd t s n 4; have := pick_bd t s n 6
  simp only [ballL, List.length_append]; omega
theorem runsL_bd (t s : Int) (n : Nat) : (runsL t s n).length ≤ 3 * n := by
  induction n with
  | zero => simp [runsL]
  | succ n ih => have := ballL_bd t s n; simp only [runsL, List.length_append]; omega
theorem srcL_bd (t : Int) (m s : Nat) : (srcL t m s).length ≤ 3 * m * s := by
  induction s with
  | zero => simp [srcL]
  | succ s ih => have := runsL_bd t s m; simp only [srcL, List.length_append]; grind
theorem tyL_bd (m t : Nat) : (tyL m t).length ≤ 12 * m * t := by
  induction t with
  | zero => simp [tyL]
  | succ t ih => have := srcL_bd (t + 1 : Nat) m 4; simp only [tyL, List.length_append]; grind

/-- No other boundary is legal. -/
theorem okD_bo {t s n b : Int} (h : okD (t, s, n, b) = true) : (1 ≤ t ∧ t ≤ 3) ∧ s ≤ 3 ∧ (0 ≤ n ∧ n ≤ 7) ∧ (b = 0 ∨ b = 4 ∨ b = 6) := by
  have hx : legalV t s n 0 b false 0 0 = 0 := by simpa [okD] using h
  unfold legalV at hx
  split at hx
  · omega
  · split at hx
    · omega
    · omega
theorem pick_no {t s n b : Int} (h : b ≠ 0) (h4 : b ≠ 4) (h6 : b ≠ 6) : pick t s n b = [] := by
  unfold pick
  split
  · rename_i hk; have := okD_bo hk; omega
  · rfl
/-- The reference's order of boundaries gives the same. -/
theorem ballL_ref (t s n : Int) : pick t s n 0 ++ pick t s n 1 ++ pick t s n 2 ++ pick t s n 3 ++ pick t s n 4 ++ pick t s n 5 ++ pick t s n 6 = ballL t s n := by
  rw [pick_no (b := 1) (by omega) (by omega) (by omega), pick_no (b := 2) (by omega) (by omega) (by omega), pick_no (b := 3) (by omega) (by omega) (by omega), pick_no (b := 5) (by omega) (by omega) (by omega)]
  simp [ballL]

theorem count_pick (t s n b : Int) (d : PD) : (pick t s n b).count d = if d = (t, s, n, b) ∧ okD d = true then 1 else 0 := by
  unfold pick
  by_cases h : d = (t, s, n, b)
  · subst h
    by_cases hk : okD (t, s, n, b) = true <;> simp [hk]
  · by_cases hk : okD (t, s, n, b) = true
    · simp [hk, h, List.count_cons]; exact fun e => h e.symm
    · simp [hk, h]
theorem count_ball (t s n : Int) (d : PD) : (ballL t s n).count d = if d.1 = t ∧ d.2.1 = s ∧ d.2.2.1 = n ∧ okD d = true then 1 else 0 := by
  obtain ⟨a, b, c, e⟩ := d
  simp only [ballL, List.count_append, count_pick, Prod.mk.injEq]
  by_cases hk : okD (a, b, c, e) = true
  · have := (okD_bo hk).2.2.2
    simp only [hk, and_true]
    grind
  · simp [hk]
theorem count_runs (t s : Int) (m : Nat) (d : PD) : (runsL t s m).count d = if d.1 = t ∧ d.2.1 = s ∧ d.2.2.1 < m ∧ okD d = true then 1 else 0 := by
  have h0 : okD d = true → 0 ≤ d.2.2.1 := fun h => (okD_bo (t := d.1) (s := d.2.1) (n := d.2.2.1) (b := d.2.2.2) h).2.2.1.1
  induction m with
  | zero => simp only [runsL, List.count_nil]; grind
  | succ n ih => simp only [runsL, List.count_append, ih, count_ball]; grind
theorem count_src (t : Int) (m k : Nat) (d : PD) (hs : 0 ≤ d.2.1) : (srcL t m k).count d = if d.1 = t ∧ d.2.1 < k ∧ d.2.2.1 < m ∧ okD d = true then 1 else 0 := by
  induction k with
  | zero => simp only [srcL, List.count_nil]; grind
  | succ n ih => simp only [srcL, List.count_append, ih, count_runs]; grind
theorem count_ty (m k : Nat) (d : PD) (hs : 0 ≤ d.2.1) : (tyL m k).count d = if d.1 ≤ k ∧ d.2.2.1 < m ∧ okD d = true then 1 else 0 := by
  have h0 : okD d = true → 1 ≤ d.1 ∧ d.2.1 ≤ 3 := fun h => ⟨(okD_bo (t := d.1) (s := d.2.1) (n := d.2.2.1) (b := d.2.2.2) h).1.1, (okD_bo (t := d.1) (s := d.2.1) (n := d.2.2.1) (b := d.2.2.2) h).2.1⟩
  induction k with
  | zero => simp only [tyL, List.count_nil]; grind
  | succ n ih => simp only [tyL, List.count_append, ih, count_src _ _ _ _ hs]; grind
/-- Exactly once if legal and of few runs, else not. -/
theorem count_all (m : Nat) (d : PD) (hs : 0 ≤ d.2.1) : (allL m).count d = if okD d = true ∧ d.2.2.1 < m then 1 else 0 := by
  have h0 : okD d = true → d.1 ≤ 3 := fun h => (okD_bo (t := d.1) (s := d.2.1) (n := d.2.2.1) (b := d.2.2.2) h).1.2
  unfold allL
  rw [count_ty m 3 d hs]
  grind
end Go.Proofs.Ytddadpjaammaiaa
