/-
  Matrices of at most three rows in plain Lean: determinant, Cramer's rule; sums and products in 64 bits.
  Conditions: none.
-/
import Derived.Test.YtcppgigndpepnaaLsqPlain
import Derived.Test.YtcppgigndpepnaaStill
namespace Go.Proofs.Ytcppgigndpepnaa
open Go.RowKit

abbrev Mat := List (List Int)
def okE (x : Int) : Bool := decide (-1000000 ≤ x) && decide (x ≤ 1000000)
def matE (a : Mat) : Int := if a.length < 1 ∨ 3 < a.length then 1 else if a.all (fun r => r.length == a.length) then (if a.all (fun r => r.all okE) then 0 else 2) else 1
def detL : Mat → Int
  | [[a]] => a
  | [[a, b], [c, d]] => a * d - b * c
  | [[a, b, c], [d, e, f], [g, h, i]] => a * (e * i - f * h) + b * (f * g - d * i) + c * (d * h - e * g)
  | _ => 0
def withCol (k : Nat) : Mat → List Int → Mat
  | r :: a, x :: b => r.set k x :: withCol k a b
  | a, _ => a
def solL (a : Mat) (b : List Int) : List Int := (List.range a.length).map fun k => detL (withCol k a b)
def rowDot : List Int → List Int → Int
  | x :: r, y :: l => x * y + rowDot r l
  | _, _ => 0

theorem okE_iff {x : Int} (h : okE x = true) : -1000000 ≤ x ∧ x ≤ 1000000 := by simpa [okE] using h
/-- The shapes of a matrix that is accepted. -/
theorem mat_shape {a : Mat} (h : matE a = 0) : (∃ x, a = [[x]] ∧ okE x = true) ∨ (∃ x y z u, a = [[x, y], [z, u]] ∧ okE x = true ∧ okE y = true ∧ okE z = true ∧ okE u = true) ∨
    ∃ x y z u v w p q r, a = [[x, y, z], [u, v, w], [p, q, r]] ∧ okE x = true ∧ okE y = true ∧ okE z = true ∧ okE u = true ∧ okE v = true ∧ okE w = true ∧ okE p = true ∧ okE q = true ∧ okE r = true := by
  unfold matE at h
  split at h
  · omega
  · rename_i h1
    split at h
    · rename_i h2
      split at h
      · rename_i h3
        match a, h1, h2, h3 with
        | [r], _, h2, h3 =>
          simp at h2
          match r, h2, h3 with
          | [x], _, h3 => exact .inl ⟨x, rfl, by simpa using h3⟩
        | [r, s], _, h2, h3 =>
          simp at h2
          obtain ⟨ha, hb⟩ := h2
          match r, s, ha, hb, h3 with
          | [x, y], [z, u], _, _, h3 => exact .inr (.inl ⟨x, y, z, u, rfl, by simp at h3; grind⟩)
        | [r, s, t], _, h2, h3 =>
          simp at h2
          obtain ⟨ha, hb, hc⟩ := h2
          match r, s, t, ha, hb, hc, h3 with
          | [x, y, z], [u, v, w], [p, q, r], _, _, _, h3 => exact .inr (.inr ⟨x, y, z, u, v, w, p, q, r, rfl, by simp at h3; grind⟩)
        | _ :: _ :: _ :: _ :: _, h1, _, _ => simp at h1
        | [], h1, _, _ => simp at h1
      · omega
    · omega

theorem wrap_eq (x : Int) : ∃ k, wrap64 x = x + k * 18446744073709551616 := ⟨(wrap64 x - x) / 18446744073709551616, by unfold wrap64; omega⟩
theorem wrap_congr {x y : Int} (k : Int) (h : x = y + k * 18446744073709551616) : wrap64 x = wrap64 y := by unfold wrap64; omega
theorem wrap_addl (a b : Int) : wrap64 (wrap64 a + b) = wrap64 (a + b) := by obtain ⟨k, h⟩ := wrap_eq a; exact wrap_congr k (by rw [h]; omega)
theorem wrap_addr (a b : Int) : wrap64 (a + wrap64 b) = wrap64 (a + b) := by obtain ⟨k, h⟩ := wrap_eq b; exact wrap_congr k (by rw [h]; omega)
theorem wrap_subl (a b : Int) : wrap64 (wrap64 a - b) = wrap64 (a - b) := by obtain ⟨k, h⟩ := wrap_eq a; exact wrap_congr k (by rw [h]; omega)
theorem wrap_subr (a b : Int) : wrap64 (a - wrap64 b) = wrap64 (a - b) := by obtain ⟨k, h⟩ := wrap_eq b; exact wrap_congr (-k) (by rw [h]; omega)
theorem wrap_mull (a b : Int) : wrap64 (wrap64 a * b) = wrap64 (a * b) := by obtain ⟨k, h⟩ := wrap_eq a; exact wrap_congr (k * b) (by rw [h]; grind)
theorem wrap_mulr (a b : Int) : wrap64 (a * wrap64 b) = wrap64 (a * b) := by obtain ⟨k, h⟩ := wrap_eq b; exact wrap_congr (a * k) (by rw [h]; grind)

theorem mul3_bd {a b c : Int} (h1 : okE a = true) (h2 : okE b = true) (h3 : okE c = true) : -1000000000000000000 ≤ a * (b * c) ∧ a * (b * c) ≤ 1000000000000000000 := by
  have h1 := okE_iff h1
  have h2 := okE_iff h2
  have h3 := okE_iff h3
  have p := mul_bd (A := 1000000) (B := 1000000) (a := b) (b := c) (by omega) (by omega) (by omega) (by omega)
  have q := mul_bd (A := 1000000) (B := 1000000000000) (a := a) (b := b * c) (by omega) (by omega) (by omega) (by omega)
  omega
theorem mul2_bd {b c : Int} (h2 : okE b = true) (h3 : okE c = true) : -1000000000000 ≤ b * c ∧ b * c ≤ 1000000000000 := by
  have h2 := okE_iff h2
  have h3 := okE_iff h3
  have p := mul_bd (A := 1000000) (B := 1000000) (a := b) (b := c) (by omega) (by omega) (by omega) (by omega)
  omega
/-- The determinant has 64 bits. -/
theorem det_bd {a : Mat} (h : matE a = 0) : -6000000000000000000 ≤ detL a ∧ detL a ≤ 6000000000000000000 := by
  rcases mat_shape h with ⟨x, rfl, hx⟩ | ⟨x, y, z, u, rfl, h1, h2, h3, h4⟩ | ⟨x, y, z, u, v, w, p, q, r, rfl, h1, h2, h3, h4, h5, h6, h7, h8, h9⟩
  · have := okE_iff hx; simp only [detL]; omega
  · have := mul2_bd h1 h4; have := mul2_bd h2 h3; simp only [detL]; omega
  · have a1 := mul3_bd h1 h5 h9; have a2 := mul3_bd h1 h6 h8; have a3 := mul3_bd h2 h6 h7; have a4 := mul3_bd h2 h4 h9; have a5 := mul3_bd h3 h4 h8; have a6 := mul3_bd h3 h5 h7
    simp only [detL, Int.mul_sub]; omega
/-- Cramer's rule. -/
theorem cramer {a : Mat} {b : List Int} (h : matE a = 0) (hb : b.length = a.length) (i : Nat) (row : List Int) (x : Int) (hr : a[i]? = some row) (hx : b[i]? = some x) : rowDot row (solL a b) = x * detL a := by
  rcases mat_shape h with ⟨x, rfl, _⟩ | ⟨x, y, z, u, rfl, _⟩ | ⟨x, y, z, u, v, w, p, q, r, rfl, _⟩
  · match b, hb with
    | [b0], _ =>
      match i, hr, hx with
      | 0, hr, hx => simp at hr hx; subst hr hx; simp [solL, withCol, detL, rowDot, List.range, List.range.loop]; grind
  · match b, hb with
    | [b0, b1], _ =>
      match i, hr, hx with
      | 0, hr, hx => simp at hr hx; subst hr hx; simp [solL, withCol, detL, rowDot, List.range, List.range.loop]; grind
      | 1, hr, hx => simp at hr hx; subst hr hx; simp [solL, withCol, detL, rowDot, List.range, List.range.loop]; grind
  · match b, hb with
    | [b0, b1, b2], _ =>
      match i, hr, hx with
      | 0, hr, hx => simp at hr hx; subst hr hx; simp [solL, withCol, detL, rowDot, List.range, List.range.loop]; grind
      | 1, hr, hx => simp at hr hx; subst hr hx; simp [solL, withCol, detL, rowDot, List.range, List.range.loop]; grind
      | 2, hr, hx => simp at hr hx; subst hr hx; simp [solL, withCol, detL, rowDot, List.range, List.range.loop]; grind
end Go.Proofs.Ytcppgigndpepnaa
