/-
  Observations of a ball in plain Lean: the check, the bounce, what is behind it.
  Conditions: none.
-/
import Derived.Test.YtmdledlbkdcmnaaLsqPlain
import Derived.OwnWalk
import Derived.Maps.AppendAt
import Derived.Lib.Hide
namespace Go.Proofs.Ytmdledlbkdcmnaa
open Go.RowKit
/-- An observation: time, three places, error. -/
abbrev SN := Int × Int × Int × Int × Int
def inR (n lo hi : Int) : Bool := decide (lo ≤ n) && decide (n ≤ hi)
def okS (s : SN) : Bool := inR s.1 0 4000 && inR s.2.1 (-300000) 300000 && inR s.2.2.1 (-50000) 50000 && inR s.2.2.2.1 0 50000 && inR s.2.2.2.2 1 1000
theorem okS_iff {s : SN} : okS s = true ↔ (0 ≤ s.1 ∧ s.1 ≤ 4000) ∧ (-300000 ≤ s.2.1 ∧ s.2.1 ≤ 300000) ∧ (-50000 ≤ s.2.2.1 ∧ s.2.2.1 ≤ 50000) ∧ (0 ≤ s.2.2.2.1 ∧ s.2.2.2.1 ≤ 50000) ∧ (1 ≤ s.2.2.2.2 ∧ s.2.2.2.2 ≤ 1000) := by
  simp only [okS, inR, Bool.and_eq_true, decide_eq_true_eq, and_assoc]
def chkF (prev : Int) : List SN → Int
  | [] => 0
  | s :: l => if okS s then (if s.1 ≤ prev then 8 else chkF s.1 l) else 2
def chkE (l : List SN) : Int := if 64 < l.length then 9 else chkF (-1) l
def prevT (l : List SN) : Nat → Int
  | 0 => -1
  | i + 1 => match l[i]? with
    | some s => s.1
    | none => -1
theorem prevT_succ {l : List SN} {i : Nat} {s : SN} (h : l[i]? = some s) : prevT l (i + 1) = s.1 := by simp [prevT, h]
theorem drop_at {α : Type} {l : List α} {i : Nat} {s : α} (h : l[i]? = some s) : l.drop i = s :: l.drop (i + 1) := by
  obtain ⟨hi, rfl⟩ := List.getElem?_eq_some_iff.1 h
  exact List.drop_eq_getElem_cons hi
/-- What the check still has to give from the i-th observation on. -/
def chkAt (l : List SN) (i : Nat) : Int := chkF (prevT l i) (l.drop i)
theorem chkAt_zero (l : List SN) : chkAt l 0 = chkF (-1) l := rfl
theorem chkAt_end {l : List SN} {i : Nat} (h : l.length ≤ i) : chkAt l i = 0 := by unfold chkAt; rw [List.drop_eq_nil_of_le h]; rfl
theorem chkAt_bad {l : List SN} {i : Nat} {s : SN} (h : l[i]? = some s) (hk : okS s = false) : chkAt l i = 2 := by
  unfold chkAt; rw [drop_at h, chkF, if_neg (by simp [hk])]
theorem chkAt_order {l : List SN} {i : Nat} {s : SN} (h : l[i]? = some s) (hk : okS s = true) (ho : s.1 ≤ prevT l i) : chkAt l i = 8 := by
  unfold chkAt; rw [drop_at h, chkF, if_pos hk, if_pos ho]
theorem chkAt_next {l : List SN} {i : Nat} {s : SN} (h : l[i]? = some s) (hk : okS s = true) (ho : ¬ s.1 ≤ prevT l i) : chkAt l i = chkAt l (i + 1) := by
  unfold chkAt; rw [drop_at h, chkF, if_pos hk, if_neg ho, prevT_succ h]
/-- The place of the least height among the first ones. -/
def minAt (l : List SN) : Nat → Nat
  | 0 => 0
  | i + 1 => match l[i]?, l[minAt l i]? with
    | some s, some r => if s.2.2.2.1 < r.2.2.2.1 then i else minAt l i
    | _, _ => minAt l i
theorem minAt_lt {l : List SN} : ∀ i, i ≤ l.length → 0 < l.length → minAt l i < l.length
  | 0, _, h => h
  | i + 1, hi, h => by
    have ih := minAt_lt i (by omega) h
    unfold minAt
    split
    · split <;> omega
    · exact ih
theorem minAt_next {l : List SN} {i : Nat} {s r : SN} (hs : l[i]? = some s) (hr : l[minAt l i]? = some r) : minAt l (i + 1) = if s.2.2.2.1 < r.2.2.2.1 then i else minAt l i := by
  conv => lhs; unfold minAt
  rw [hs, hr]
def heightAt (l : List SN) (k : Nat) : Int := match l[k]? with
  | some s => s.2.2.2.1
  | none => 0
/-- The place of the bounce, or 0. -/
def bncK (l : List SN) : Nat := if chkE l = 0 then (if minAt l l.length = 0 ∨ (minAt l l.length : Int) = (l.length : Int) - 1 ∨ 1000 < heightAt l (minAt l l.length) then 0 else minAt l l.length) else 0
/-- Behind the bounce. -/
def bhdL (l : List SN) : List SN := if chkE l = 0 then l.drop (bncK l) else []
theorem bncK_le (l : List SN) : bncK l ≤ l.length := by
  unfold bncK
  split
  · split
    · omega
    · rename_i h
      have := minAt_lt (l := l) l.length (Nat.le_refl _) (by
        rcases Nat.eq_zero_or_pos l.length with h0 | h0
        · rw [h0] at h; simp [minAt] at h
        · exact h0)
      omega
  · omega
/-- The sides of the pitch exchanged. -/
def mirS (s : SN) : SN := (s.1, s.2.1, -s.2.2.1, s.2.2.2.1, s.2.2.2.2)
theorem chkE_len {l : List SN} (h : chkE l = 0) : l.length ≤ 64 := by
  unfold chkE at h
  split at h
  · omega
  · omega
theorem chkF_ok : ∀ (l : List SN) (p : Int), chkF p l = 0 → ∀ s ∈ l, okS s = true
  | [], _, _, s, hs => by simp at hs
  | q :: l, p, h, s, hs => by
    unfold chkF at h
    split at h
    · rename_i hk
      split at h
      · omega
      · simp only [List.mem_cons] at hs
        rcases hs with rfl | hs
        · exact hk
        · exact chkF_ok l _ h s hs
    · omega
theorem chkE_ok {l : List SN} (h : chkE l = 0) : ∀ s ∈ l, okS s = true := by
  unfold chkE at h
  split at h
  · omega
  · exact chkF_ok l _ h
theorem bhd_ok {l : List SN} : ∀ s ∈ bhdL l, okS s = true := by
  intro s hs
  unfold bhdL at hs
  split at hs
  · rename_i h; exact chkE_ok h s (List.mem_of_mem_drop hs)
  · simp at hs
theorem bhd_len (l : List SN) : (bhdL l).length ≤ 64 := by
  unfold bhdL
  split
  · rename_i h; rw [List.length_drop]; have := chkE_len h; omega
  · simp
theorem chkF_mir : ∀ (l : List SN) (p : Int), chkF p (l.map mirS) = chkF p l
  | [], _ => rfl
  | q :: l, p => by
    have hk : okS (mirS q) = okS q := by
      rw [Bool.eq_iff_iff, okS_iff, okS_iff]; simp only [mirS]; omega
    simp only [List.map_cons, chkF, hk, chkF_mir l]
    rfl
theorem chkE_mir (l : List SN) : chkE (l.map mirS) = chkE l := by
  unfold chkE; rw [List.length_map, chkF_mir]
theorem minAt_mir (l : List SN) : ∀ i, minAt (l.map mirS) i = minAt l i
  | 0 => rfl
  | i + 1 => by
    unfold minAt
    rw [minAt_mir l i, List.getElem?_map, List.getElem?_map]
    cases l[i]? <;> cases l[minAt l i]? <;> simp [mirS]
theorem heightAt_mir (l : List SN) (k : Nat) : heightAt (l.map mirS) k = heightAt l k := by
  unfold heightAt
  rw [List.getElem?_map]
  cases l[k]? <;> simp [mirS]
theorem bncK_mir (l : List SN) : bncK (l.map mirS) = bncK l := by
  unfold bncK
  rw [chkE_mir, List.length_map, minAt_mir, heightAt_mir]
theorem bhd_mir (l : List SN) : bhdL (l.map mirS) = (bhdL l).map mirS := by
  unfold bhdL
  rw [chkE_mir, bncK_mir]
  split
  · rw [List.map_drop]
  · rfl
end Go.Proofs.Ytmdledlbkdcmnaa
