/-
  Where a ball crosses the line of the stumps, in plain Lean; ranges of heights with gravity put back.
  Conditions: none.
-/
import Derived.Test.YtmdledlbkdcmnaaPathLaw
namespace Go.Proofs.Ytmdledlbkdcmnaa
open Go.RowKit
/-- The first number from k on, and the last one up to n, that has a property. -/
def fstK (p : Nat → Bool) : Nat → Nat → Nat
  | 0, k => k
  | n + 1, k => if p k then k else fstK p n (k + 1)
theorem fstK_spec {p : Nat → Bool} : ∀ n k : Nat, (∃ m, k ≤ m ∧ m < k + n ∧ p m = true) → p (fstK p n k) = true ∧ k ≤ fstK p n k ∧ fstK p n k < k + n ∧ ∀ m, k ≤ m → m < fstK p n k → p m = false
  | 0, k, ⟨m, h1, h2, _⟩ => by omega
  | n + 1, k, ⟨m, h1, h2, h3⟩ => by
    unfold fstK
    by_cases hk : p k = true
    · rw [if_pos hk]; exact ⟨hk, Nat.le_refl _, by omega, fun m h1 h2 => by omega⟩
    · rw [if_neg hk]
      have hne : m ≠ k := fun e => hk (by rw [← e]; exact h3)
      obtain ⟨a1, a2, a3, a4⟩ := fstK_spec n (k + 1) ⟨m, by omega, by omega, h3⟩
      refine ⟨a1, by omega, by omega, fun q h1 h2 => ?_⟩
      by_cases hq : q = k
      · subst hq; simpa using hk
      · exact a4 q (by omega) h2
def lstK (p : Nat → Bool) : Nat → Nat
  | 0 => 0
  | k + 1 => if p (k + 1) then k + 1 else lstK p k
theorem lstK_spec {p : Nat → Bool} : ∀ n : Nat, (∃ m, m ≤ n ∧ p m = true) → p (lstK p n) = true ∧ lstK p n ≤ n ∧ ∀ m, lstK p n < m → m ≤ n → p m = false
  | 0, ⟨m, h1, h2⟩ => by
    obtain rfl : m = 0 := by omega
    exact ⟨h2, Nat.le_refl _, fun m h1 h2 => by unfold lstK at h1; omega⟩
  | n + 1, ⟨m, h1, h2⟩ => by
    unfold lstK
    by_cases hk : p (n + 1) = true
    · rw [if_pos hk]; exact ⟨hk, Nat.le_refl _, fun m h1 h2 => by omega⟩
    · rw [if_neg hk]
      have hne : m ≠ n + 1 := fun e => hk (by rw [← e]; exact h2)
      obtain ⟨a1, a2, a3⟩ := lstK_spec n ⟨m, by omega, h2⟩
      refine ⟨a1, by omega, fun q h1 h2 => ?_⟩
      by_cases hq : q = n + 1
      · subst hq; simpa using hk
      · exact a3 q h1 (by omega)
def lastB (l : List BD) : BD := match l[l.length - 1]? with
  | some b => b
  | none => (0, 0, 0)
theorem lastB_some {l : List BD} {b : BD} (h : l[l.length - 1]? = some b) : lastB l = b := by unfold lastB; rw [h]
theorem last_ex {l : List BD} (h : 2 ≤ l.length) : l[l.length - 1]? = some (lastB l) := by
  obtain ⟨b, hb⟩ := some_of (l := l) (i := l.length - 1) (by omega)
  rw [hb, lastB_some hb]
theorem past_last {l : List BD} (r : RisingB l) (h : 2 ≤ l.length) {t : Int} (ht : (lastB l).1 ≤ t) : Past l t := by
  intro b hb
  obtain ⟨i, hi, e⟩ := List.getElem_of_mem hb
  have hb' : l[i]? = some b := by rw [← e]; exact List.getElem?_eq_getElem hi
  have hl := last_ex h
  by_cases hi2 : i = l.length - 1
  · subst hi2
    rw [hl] at hb'
    obtain rfl := Option.some.inj hb'
    exact ht
  · have := r i (l.length - 1) b _ (by omega) hb' hl
    omega
/-- The ball comes nearer from each to each later one. -/
def comeAt (l : List BD) (i j : Nat) : Bool := match l[i]?, l[j]? with
  | some a, some b => decide (b.2.2 < a.2.1)
  | _, _ => true
theorem comeAt_some {l : List BD} {i j : Nat} {a b : BD} (ha : l[i]? = some a) (hb : l[j]? = some b) : comeAt l i j = decide (b.2.2 < a.2.1) := by unfold comeAt; rw [ha, hb]
def comes (l : List BD) : Bool := (List.range l.length).all fun j => (List.range j).all fun i => comeAt l i j
theorem comes_iff {l : List BD} : comes l = true ↔ ∀ i j, i < j → j < l.length → comeAt l i j = true := by
  unfold comes
  simp only [List.all_eq_true, List.mem_range]
  exact ⟨fun h i j hi hj => h j hj i hi, fun h j hj i hi => h i j hi hj⟩
theorem comes_no {l : List BD} {i j : Nat} (hi : i < j) (hj : j < l.length) (h : comeAt l i j = false) : comes l = false := by
  cases hb : comes l with
  | false => rfl
  | true => rw [comes_iff.1 hb i j hi hj] at h; cases h
/-- Heights of raised ones. -/
def fallLo (lo hi e l : Int) : Int := if lo - 981 * l * l ≤ hi - 981 * e * e then (lo - 981 * l * l) / 80000 else 0
def fallHi (lo hi e l : Int) : Int := if lo - 981 * l * l ≤ hi - 981 * e * e then -(-(hi - 981 * e * e) / 80000) else 0
/-- Whether a path fits. -/
def posB (l : List SN) : Bool := fitsB (bnds 0 (bhdL l)) && (fitsB (bnds 1 (bhdL l)) && fitsB (bnds 2 (bhdL l)))
def linE (l : List SN) (ax t : Int) : Int :=
  if ax < 0 ∨ 2 < ax then 1 else if behE l ≠ 0 then behE l else if t < (lastB (bnds ax (bhdL l))).1 ∨ (lastB (bnds ax (bhdL l))).1 + 400 < t then 2 else if fitsB (bnds ax (bhdL l)) = true then 0 else 13
def linLo (l : List SN) (ax t : Int) : Int := if linE l ax t = 0 then loR (bnds ax (bhdL l)) t t else 0
def linHi (l : List SN) (ax t : Int) : Int := if linE l ax t = 0 then hiR (bnds ax (bhdL l)) t t else 0
def crsE (l : List SN) : Int :=
  if behE l ≠ 0 then behE l else if posB l = false then 13 else if comes (bnds 0 (bhdL l)) = false then 8
  else if (lastB (bnds 0 (bhdL l))).2.1 ≤ 0 ∨ 0 ≤ hiR (bnds 0 (bhdL l)) ((lastB (bnds 0 (bhdL l))).1 + 400) ((lastB (bnds 0 (bhdL l))).1 + 400) then 6 else 0
def crsF (x : List BD) : Nat := fstK (fun k => decide (loR x ((lastB x).1 + k) ((lastB x).1 + k) ≤ 0)) 401 0
def crsL (x : List BD) : Nat := lstK (fun k => decide (0 ≤ hiR x ((lastB x).1 + k) ((lastB x).1 + k))) 400
theorem crs_k {x : List BD} (r : RisingB x) (ho : ∀ b ∈ x, okB b) (h2 : 2 ≤ x.length) (h : fitsB x = true) (hl : 0 < (lastB x).2.1) (hh : hiR x ((lastB x).1 + 400) ((lastB x).1 + 400) < 0) :
    (loR x ((lastB x).1 + crsF x) ((lastB x).1 + crsF x) ≤ 0 ∧ 1 ≤ crsF x ∧ crsF x ≤ 400 ∧ ∀ k : Nat, k < crsF x → 0 < loR x ((lastB x).1 + k) ((lastB x).1 + k))
    ∧ (0 ≤ hiR x ((lastB x).1 + crsL x) ((lastB x).1 + crsL x) ∧ crsL x < 400 ∧ (∀ k : Nat, crsL x < k → k ≤ 400 → hiR x ((lastB x).1 + k) ((lastB x).1 + k) < 0)) := by
  have h0 : 0 < loR x ((lastB x).1 + ((0 : Nat) : Int)) ((lastB x).1 + ((0 : Nat) : Int)) := by
    obtain ⟨u, hu⟩ := some_of (l := x) (i := 0) (by omega)
    have hv := last_ex h2
    have := loR_all ((lastB x).1 + ((0 : Nat) : Int)) ((lastB x).1 + ((0 : Nat) : Int)) (show 0 < x.length - 1 by omega) hu hv
    rw [loP_same] at this
    have hd := r _ _ _ _ (show 0 < x.length - 1 by omega) hu hv
    have e : flL (loL u (lastB x)) ((lastB x).1 + ((0 : Nat) : Int)) = (lastB x).2.1 := by
      unfold flL loL
      dsimp only
      rw [show (lastB x).1 + ((0 : Nat) : Int) - u.1 = (lastB x).1 - u.1 by simp, Int.mul_ediv_cancel _ (by omega)]
      omega
    omega
  have le0 := lo_le_hi r ho h2 (past_last r h2 (t := (lastB x).1 + ((0 : Nat) : Int)) (by simp)) h
  have le4 := lo_le_hi r ho h2 (past_last r h2 (t := (lastB x).1 + 400) (by omega)) h
  obtain ⟨a1, a2, a3, a4⟩ := fstK_spec (p := fun k => decide (loR x ((lastB x).1 + k) ((lastB x).1 + k) ≤ 0)) 401 0 ⟨400, by omega, by omega, by simp only [decide_eq_true_eq]; exact Int.le_trans le4 (by omega)⟩
  obtain ⟨b1, b2, b3⟩ := lstK_spec (p := fun k => decide (0 ≤ hiR x ((lastB x).1 + k) ((lastB x).1 + k))) 400 ⟨0, by omega, by simp only [decide_eq_true_eq]; omega⟩
  have a1' : loR x ((lastB x).1 + crsF x) ((lastB x).1 + crsF x) ≤ 0 := of_decide_eq_true a1
  have b1' : 0 ≤ hiR x ((lastB x).1 + crsL x) ((lastB x).1 + crsL x) := of_decide_eq_true b1
  refine ⟨⟨a1', ?_, by unfold crsF; omega, fun k hk => ?_⟩, b1', ?_, fun k hk hk2 => ?_⟩
  · rcases Nat.eq_zero_or_pos (crsF x) with e | e
    · rw [e] at a1'; omega
    · exact e
  · have := a4 k (by omega) hk
    simp only [decide_eq_false_iff_not] at this
    omega
  · rcases Nat.lt_or_eq_of_le b2 with e | e
    · exact e
    · exfalso
      have e' : crsL x = 400 := e
      rw [e'] at b1'
      have : hiR x ((lastB x).1 + 400) ((lastB x).1 + 400) = hiR x ((lastB x).1 + ((400 : Nat) : Int)) ((lastB x).1 + ((400 : Nat) : Int)) := rfl
      omega
  · have := b3 k hk hk2
    simp only [decide_eq_false_iff_not] at this
    omega
def cT1 (l : List SN) : Int := (lastB (bnds 0 (bhdL l))).1 + crsF (bnds 0 (bhdL l)) - 1
def cT2 (l : List SN) : Int := (lastB (bnds 0 (bhdL l))).1 + crsL (bnds 0 (bhdL l)) + 1
end Go.Proofs.Ytmdledlbkdcmnaa
