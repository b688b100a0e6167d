/-
  A list out of its parts.
  Conditions: none.
-/
import Derived.Test.YtajdfcliiefjgaaBase
namespace Go.Proofs.Ytajdfcliiefjgaa
theorem exists_list {α : Type} (Q : Nat → α → Prop) : ∀ l : Nat, (∀ i, i < l → ∃ x, Q i x) → ∃ xs : List α, xs.length = l ∧ ∀ i x, xs[i]? = some x → Q i x
  | 0, _ => ⟨[], rfl, fun i x h => by simp at h⟩
  | l + 1, h => by
    obtain ⟨xs, h1, h2⟩ := exists_list Q l (fun i hi => h i (by omega))
    obtain ⟨x, hx⟩ := h l (by omega)
    refine ⟨xs ++ [x], by simp [h1], fun i y hy => ?_⟩
    rcases Nat.lt_or_ge i xs.length with hi | hi
    · rw [List.getElem?_append_left hi] at hy; exact h2 i y hy
    · rw [List.getElem?_append_right hi] at hy
      have hj : i - xs.length = 0 := by
        have := (List.getElem?_eq_some_iff.1 hy).1
        simp at this; omega
      rw [hj] at hy
      obtain rfl : x = y := by simpa using hy
      rw [show i = l by omega]; exact hx
end Go.Proofs.Ytajdfcliiefjgaa
