/-
  Helly for lines between bounds: behind the last bounds no lower line is above an upper one; the least upper line fits.
  Conditions: none.
-/
import Derived.Test.YtmdledlbkdcmnaaPathPlain
namespace Go.Proofs.Ytmdledlbkdcmnaa.PathLaw
/-- The bounds of an observation on an axis. -/
structure Bd where
  t : Int
  lo : Int
  hi : Int
  deriving DecidableEq

theorem mul_mono {a b c : Int} (h : a ≤ b) (hc : 0 ≤ c) : c * a ≤ c * b := Int.mul_le_mul_of_nonneg_left h hc

theorem caseA {ak al ai aj kh ll jh il : Int} (h0 : 0 ≤ aj) (hj : aj ≤ al) (hl : al < ak) (hi : aj < ai)
    (h1 : ll * (ak - aj) ≤ kh * (al - aj) + jh * (ak - al)) (h2 : il * (ak - aj) ≤ kh * (ai - aj) + jh * (ak - ai)) :
    (ll * ak - kh * al) * (ai - aj) ≤ (jh * ai - il * aj) * (ak - al) := by
  have p1 : (ak - al) * (ai - aj) * (jh * ak - kh * aj) ≤ (jh * ai - il * aj) * (ak - al) * (ak - aj) := by
    have := mul_mono h2 (c := aj * (ak - al)) (Int.mul_nonneg h0 (by omega))
    grind
  have p2 : (ll * ak - kh * al) * (ai - aj) * (ak - aj) ≤ (ak - al) * (ai - aj) * (jh * ak - kh * aj) := by
    have := mul_mono h1 (c := ak * (ai - aj)) (Int.mul_nonneg (by omega) (by omega))
    grind
  exact Int.le_of_mul_le_mul_right (Int.le_trans p2 p1) (by omega)

theorem caseB {ak al ai aj kh ll jh il : Int} (h0 : 0 ≤ al) (hl : al < ak) (hi : aj < ai) (hj : al ≤ aj)
    (h1 : il * (ak - al) + ll * (ai - ak) ≤ kh * (ai - al)) (h2 : il * (aj - al) + ll * (ai - aj) ≤ jh * (ai - al)) :
    (ll * ak - kh * al) * (ai - aj) ≤ (jh * ai - il * aj) * (ak - al) := by
  have p1 : (ak - al) * (ai - aj) * (ll * ai - il * al) ≤ (jh * ai - il * aj) * (ak - al) * (ai - al) := by
    have := mul_mono h2 (c := ai * (ak - al)) (Int.mul_nonneg (by omega) (by omega))
    grind
  have p2 : (ll * ak - kh * al) * (ai - aj) * (ai - al) ≤ (ak - al) * (ai - aj) * (ll * ai - il * al) := by
    have := mul_mono h1 (c := al * (ai - aj)) (Int.mul_nonneg (by omega) (by omega))
    grind
  exact Int.le_of_mul_le_mul_right (Int.le_trans p2 p1) (by omega)

theorem caseC {ak al ai aj kh ll jh il : Int} (h0 : 0 ≤ al) (hl : al < ak)
    (h1 : il * (ak - aj) ≤ kh * (ai - aj) + jh * (ak - ai)) (h2 : il * (aj - al) + ll * (ai - aj) ≤ jh * (ai - al)) :
    (ll * ak - kh * al) * (ai - aj) ≤ (jh * ai - il * aj) * (ak - al) := by
  have q1 := mul_mono h1 h0
  have q2 := mul_mono h2 (c := ak) (by omega)
  grind

theorem caseD {ak al ai aj kh ll jh il : Int} (h0 : 0 ≤ aj) (hi : aj < ai)
    (h1 : il * (ak - al) + ll * (ai - ak) ≤ kh * (ai - al)) (h2 : ll * (ak - aj) ≤ kh * (al - aj) + jh * (ak - al)) :
    (ll * ak - kh * al) * (ai - aj) ≤ (jh * ai - il * aj) * (ak - al) := by
  have q1 := mul_mono h1 h0
  have q2 := mul_mono h2 (c := ai) (by omega)
  grind

/-- A line fits for three observations. -/
def three (a b c : Bd) : Prop := b.lo * (c.t - a.t) ≤ a.hi * (c.t - b.t) + c.hi * (b.t - a.t) ∧ a.lo * (c.t - b.t) + c.lo * (b.t - a.t) ≤ b.hi * (c.t - a.t)

theorem three_left {a c : Bd} (h : a.lo ≤ a.hi) (ht : a.t ≤ c.t) : three a a c := by
  have := mul_mono h (c := c.t - a.t) (by omega)
  constructor <;> grind
theorem three_right {a c : Bd} (h : c.lo ≤ c.hi) (ht : a.t ≤ c.t) : three a c c := by
  have := mul_mono h (c := c.t - a.t) (by omega)
  constructor <;> grind

/-- Every three of the observations can be met by one line. -/
def Triples (n : Nat) (f : Nat → Bd) : Prop := ∀ i j k, i < j → j < k → k < n → three (f i) (f j) (f k)
/-- The times rise, and no bounds are crossed. -/
def Rising (n : Nat) (f : Nat → Bd) : Prop := (∀ i j, i < j → j < n → (f i).t < (f j).t) ∧ ∀ i, i < n → (f i).lo ≤ (f i).hi

theorem Triples.weak {n : Nat} {f : Nat → Bd} (h : Triples n f) (r : Rising n f) {i j k : Nat} (hij : i ≤ j) (hjk : j ≤ k) (hk : k < n) : three (f i) (f j) (f k) := by
  rcases Nat.lt_or_eq_of_le hij with h1 | rfl
  · rcases Nat.lt_or_eq_of_le hjk with h2 | rfl
    · exact h i j k h1 h2 hk
    · exact three_right (r.2 _ hk) (Int.le_of_lt (r.1 _ _ h1 hk))
  · rcases Nat.lt_or_eq_of_le hjk with h2 | rfl
    · exact three_left (r.2 _ (by omega)) (Int.le_of_lt (r.1 _ _ h2 hk))
    · exact three_left (r.2 _ hk) (Int.le_refl _)

/-- HELLY: behind the last observation no lower line is above an upper one. -/
theorem helly {n : Nat} {f : Nat → Bd} (h : Triples n f) (r : Rising n f) {T : Int} (hT : ∀ i, i < n → (f i).t ≤ T) {k l i j : Nat} (hkl : k < l) (hl : l < n) (hij : i < j) (hj : j < n) :
    ((f l).lo * (T - (f k).t) - (f k).hi * (T - (f l).t)) * ((f j).t - (f i).t) ≤ ((f j).hi * (T - (f i).t) - (f i).lo * (T - (f j).t)) * ((f l).t - (f k).t) := by
  have tkl := r.1 _ _ hkl hl
  have tij := r.1 _ _ hij hj
  have hTl := hT l hl
  have hTj := hT j hj
  have e1 : ((f j).t - (f i).t) = (T - (f i).t) - (T - (f j).t) := by omega
  have e2 : ((f l).t - (f k).t) = (T - (f k).t) - (T - (f l).t) := by omega
  rw [e1, e2]
  rcases Nat.le_total k i with h1 | h1 <;> rcases Nat.le_total l j with h2 | h2
  · have a := (h.weak r (Nat.le_of_lt hkl) h2 hj).1
    have b := (h.weak r h1 (Nat.le_of_lt hij) hj).1
    have tlj : (f l).t ≤ (f j).t := by
      rcases Nat.lt_or_eq_of_le h2 with e | rfl
      · exact Int.le_of_lt (r.1 _ _ e hj)
      · exact Int.le_refl _
    refine caseA (by omega) (by omega) (by omega) (by omega) ?_ ?_
    · grind
    · grind
  · have a := (h.weak r h1 (Nat.le_of_lt hij) hj).1
    have b := (h.weak r (Nat.le_of_lt hij) h2 hl).2
    refine caseC (by omega) (by omega) ?_ ?_
    · grind
    · grind
  · have a := (h.weak r h1 (Nat.le_of_lt hkl) hl).2
    have b := (h.weak r (Nat.le_of_lt hkl) h2 hj).1
    refine caseD (by omega) (by omega) ?_ ?_
    · grind
    · grind
  · have a := (h.weak r h1 (Nat.le_of_lt hkl) hl).2
    have b := (h.weak r (Nat.le_of_lt hij) h2 hl).2
    have tlj : (f j).t ≤ (f l).t := by
      rcases Nat.lt_or_eq_of_le h2 with e | rfl
      · exact Int.le_of_lt (r.1 _ _ e hl)
      · exact Int.le_refl _
    refine caseB (by omega) (by omega) (by omega) (by omega) ?_ ?_
    · grind
    · grind

/-- Of a list of pairs there is one with the least ratio. -/
theorem least_ratio {α : Type} (num den : α → Int) : ∀ (l : List α), l ≠ [] → (∀ p ∈ l, 0 < den p) → ∃ p ∈ l, ∀ q ∈ l, num p * den q ≤ num q * den p := by
  intro l
  induction l with
  | nil => intro h; exact absurd rfl h
  | cons a l ih =>
    intro _ hd
    by_cases hl : l = []
    · subst hl
      exact ⟨a, by simp, fun q hq => by simp at hq; subst hq; exact Int.le_refl _⟩
    · obtain ⟨p, hp, hm⟩ := ih hl fun q hq => hd q (by simp [hq])
      have da := hd a (by simp)
      have dp := hd p (by simp [hp])
      by_cases hc : num a * den p ≤ num p * den a
      · refine ⟨a, by simp, fun q hq => ?_⟩
        rcases List.mem_cons.1 hq with rfl | hq
        · exact Int.le_refl _
        · have dq := hd q (by simp [hq])
          have h1 := mul_mono hc (c := den q) (Int.le_of_lt dq)
          have h2 := mul_mono (hm q hq) (c := den a) (Int.le_of_lt da)
          have h3 : (num a * den q) * den p ≤ (num q * den a) * den p := by grind
          exact Int.le_of_mul_le_mul_right h3 dp
      · refine ⟨p, by simp [hp], fun q hq => ?_⟩
        rcases List.mem_cons.1 hq with rfl | hq
        · omega
        · exact hm q hq

/-- The value at T of the upper line of a pair, times the pair's distance; of the lower one. -/
def up (f : Nat → Bd) (T : Int) (i j : Nat) : Int := (f j).hi * (T - (f i).t) - (f i).lo * (T - (f j).t)
def low (f : Nat → Bd) (T : Int) (i j : Nat) : Int := (f j).lo * (T - (f i).t) - (f i).hi * (T - (f j).t)
def dist (f : Nat → Bd) (i j : Nat) : Int := (f j).t - (f i).t

theorem cancel_pos {a b c : Int} (hc : 0 < c) (h : c * a ≤ c * b) : a ≤ b := Int.le_of_mul_le_mul_left h hc

/-- The upper line that is least at T fits everywhere. -/
theorem least_fits {n : Nat} {f : Nat → Bd} (h : Triples n f) (r : Rising n f) {T : Int} (hT : ∀ i, i < n → (f i).t < T) {i j : Nat} (hij : i < j) (hj : j < n)
    (hmin : ∀ k l, k < l → l < n → up f T i j * dist f k l ≤ up f T k l * dist f i j) {m : Nat} (hm : m < n) :
    (f m).lo * dist f i j ≤ (f i).lo * ((f j).t - (f m).t) + (f j).hi * ((f m).t - (f i).t) ∧ (f i).lo * ((f j).t - (f m).t) + (f j).hi * ((f m).t - (f i).t) ≤ (f m).hi * dist f i j := by
  have hi : i < n := by omega
  have ai := hT i hi
  have aj := hT j hj
  have am := hT m hm
  have tij := r.1 _ _ hij hj
  unfold up dist at *
  have hh : ∀ k l, k < l → l < n → _ := fun k l h1 h2 => helly h r (T := T) (fun i hi => Int.le_of_lt (hT i hi)) h1 h2 hij hj
  constructor
  · rcases Nat.lt_trichotomy m j with e | e | e
    · have a := hmin m j e hj
      refine cancel_pos (c := T - (f j).t) (by omega) ?_
      grind
    · subst e
      have b := mul_mono (r.2 _ hj) (c := (f m).t - (f i).t) (by omega)
      grind
    · have a := hh j m e hm
      refine cancel_pos (c := T - (f j).t) (by omega) ?_
      grind
  · rcases Nat.lt_trichotomy i m with e | e | e
    · have a := hmin i m e hm
      refine cancel_pos (c := T - (f i).t) (by omega) ?_
      grind
    · subst e
      have b := mul_mono (r.2 _ hi) (c := (f j).t - (f i).t) (by omega)
      grind
    · have a := hh m i e hi
      refine cancel_pos (c := T - (f i).t) (by omega) ?_
      grind
end Go.Proofs.Ytmdledlbkdcmnaa.PathLaw
