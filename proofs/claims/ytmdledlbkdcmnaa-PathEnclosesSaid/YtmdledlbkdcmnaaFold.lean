/-
  The greatest and the least of a list, step by step; sizes of the ends of ranges.
  Conditions: none.
-/
import Derived.Test.YtmdledlbkdcmnaaCrossPlain
namespace Go.Proofs.Ytmdledlbkdcmnaa
open Go.RowKit
theorem fold_next {f : Int → Int → Int} {l : List Int} {k : Nat} {x y : Int} (h : l[k]? = some y) : (l.take (k + 1)).foldl f x = f ((l.take k).foldl f x) y := by
  rw [List.take_add_one, h, List.foldl_append]; rfl
theorem fold_max {l : List Int} {x : Int} (h : l[0]? = some x) : l.foldl max x = mxl l := by
  cases l with
  | nil => simp at h
  | cons y l =>
    obtain rfl : y = x := by simpa using h
    simp only [List.foldl_cons, mxl, Int.max_self]
theorem fold_min {l : List Int} {x : Int} (h : l[0]? = some x) : l.foldl min x = mnl l := by
  cases l with
  | nil => simp at h
  | cons y l =>
    obtain rfl : y = x := by simpa using h
    simp only [List.foldl_cons, mnl, Int.min_self]
theorem loP_bd {x : LN} (h : okN x) {s t : Int} (h1 : -10 ≤ s) (h2 : s ≤ 5000) (h3 : -10 ≤ t) (h4 : t ≤ 5000) : -300000000000000 ≤ loP s t x ∧ loP s t x ≤ 300000000000000 := by
  have a := flL_bd h h1 h2
  have b := flL_bd h h3 h4
  unfold loP; omega
theorem hiP_bd {x : LN} (h : okN x) {s t : Int} (h1 : -10 ≤ s) (h2 : s ≤ 5000) (h3 : -10 ≤ t) (h4 : t ≤ 5000) : -300000000000000 ≤ hiP s t x ∧ hiP s t x ≤ 300000000000000 := by
  have a := ceL_bd h h1 h2
  have b := ceL_bd h h3 h4
  unfold hiP; omega
theorem loR_bd {l : List BD} (ho : ∀ b ∈ l, okB b) (r : RisingB l) {s t : Int} (h1 : -10 ≤ s) (h2 : s ≤ 5000) (h3 : -10 ≤ t) (h4 : t ≤ 5000) : -300000000000000 ≤ loR l s t ∧ loR l s t ≤ 300000000000000 := by
  unfold loR
  cases e : (lows l).map (loP s t) with
  | nil => simp [mxl]
  | cons y m =>
    have := (mxl_spec (l := y :: m) (by simp)).1
    rw [← e] at this ⊢
    obtain ⟨x, hx, hxe⟩ := List.mem_map.1 this
    rw [← hxe]
    exact loP_bd (lows_ok ho r x hx) h1 h2 h3 h4
theorem hiR_bd {l : List BD} (ho : ∀ b ∈ l, okB b) (r : RisingB l) {s t : Int} (h1 : -10 ≤ s) (h2 : s ≤ 5000) (h3 : -10 ≤ t) (h4 : t ≤ 5000) : -300000000000000 ≤ hiR l s t ∧ hiR l s t ≤ 300000000000000 := by
  unfold hiR
  cases e : (upps l).map (hiP s t) with
  | nil => simp [mnl]
  | cons y m =>
    have := (mnl_spec (l := y :: m) (by simp)).1
    rw [← e] at this ⊢
    obtain ⟨x, hx, hxe⟩ := List.mem_map.1 this
    rw [← hxe]
    exact hiP_bd (upps_ok ho r x hx) h1 h2 h3 h4
theorem lastB_ok {l : List BD} (ho : ∀ b ∈ l, okB b) (h : 2 ≤ l.length) : okB (lastB l) := ho _ (List.mem_of_getElem? (last_ex h))
end Go.Proofs.Ytmdledlbkdcmnaa
