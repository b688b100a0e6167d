/-
  Opening an argument whose type is flat: structs and arrays (nested) of integers, bools and slices: each cell by its place.
  Conditions: none. Any program, any world.
-/
import Derived.ProofKit
import Derived.OpenShut
import Derived.Deep.Slices
namespace Go.Proofs.Ytcppgigndpepnaa
open Go.ChangeShapes Go.WideShapes Go.RowKit Go.Deep
section
variable {H : Type} {enc : TypeId × Value → H} {P : Program} {w : World} {base : Nat} {spare : Nat → Bool} {held : Bool}

/-- The type of the leaf at cell i of a value of type t. -/
def leafAt (P : Program) : Nat → TypeId → Nat → Option TypeId
  | 0, _, _ => none
  | n + 1, t, i =>
    match P.underlying t with
    | some (.struct fs) => (fs.toList.find? fun f => decide (f.offset ≤ i) && decide (i < f.offset + P.cellsOf f.type)).bind fun f => leafAt P n f.type (i - f.offset)
    | some (.array m e) => if i < m * P.cellsOf e then leafAt P n e (i % P.cellsOf e) else none
    | some (.int _) => if i = 0 then some t else none
    | some .bool => if i = 0 then some t else none
    | some (.slice _) => if i = 0 then some t else none
    | _ => none

theorem leaf_trod (n : Nat) : ∀ {t u : TypeId} {i fuel : Nat} {cs : List Value} {x : DataW H × List MemPlace}, leafAt P n t i = some u → DataW.trod enc P w base spare held fuel t cs = some x →
    ∃ v y f', cs[i]? = some v ∧ DataW.trod enc P w base spare held f' u [v] = some y := by
  induction n with
  | zero => intro t u i fuel cs x h; simp [leafAt] at h
  | succ n ih =>
    intro t u i fuel cs x h hx
    unfold leafAt at h
    split at h
    · rename_i fs ht
      obtain ⟨f, hf, h⟩ := Option.bind_eq_some_iff.1 h
      obtain ⟨xs, m, rfl, -, hl, hxl, hg⟩ := DataW.trod_struct ht hx
      have hp := List.find?_some hf
      have hm := List.mem_of_find?_eq_some hf
      simp only [Bool.and_eq_true, decide_eq_true_eq] at hp
      obtain ⟨j, hj, hjf⟩ := List.getElem_of_mem hm
      have hjf' : fs[j]? = some f := by rw [← hjf]; simp at hj; simp [hj]
      have h1 := hg j f hjf'
      have hjx : j < xs.length := by simp at hj; omega
      rw [List.getElem?_eq_getElem hjx] at h1
      obtain ⟨v, y, f', hv, hy⟩ := ih h h1
      refine ⟨v, y, f', ?_, hy⟩
      rw [List.getElem?_take, List.getElem?_drop] at hv
      split at hv
      · rw [← hv]; congr 1; omega
      · simp at hv
    · rename_i m e ht
      split at h
      · rename_i hi
        obtain ⟨xs, k, rfl, -, hl, hxl, hg⟩ := DataW.trod_array ht hx
        have hpos : 0 < P.cellsOf e := by
          rcases Nat.eq_zero_or_pos (P.cellsOf e) with h0 | h0
          · rw [h0] at hi; omega
          · exact h0
        have hq : i / P.cellsOf e < m := (Nat.div_lt_iff_lt_mul hpos).2 hi
        have h1 := hg (i / P.cellsOf e) hq
        rw [List.getElem?_eq_getElem (by omega)] at h1
        obtain ⟨v, y, f', hv, hy⟩ := ih h h1
        refine ⟨v, y, f', ?_, hy⟩
        rw [List.getElem?_take, List.getElem?_drop] at hv
        split at hv
        · rw [← hv]; congr 1; have := Nat.div_add_mod i (P.cellsOf e); rw [Nat.mul_comm] at this; omega
        · simp at hv
      · simp at h
    · rename_i k ht
      split at h
      · injection h with h; subst h; rename_i hi; subst hi
        obtain ⟨a, rfl, rfl, _⟩ := DataW.trod_int ht hx
        exact ⟨_, _, _, rfl, hx⟩
      · simp at h
    · rename_i ht
      split at h
      · injection h with h; subst h; rename_i hi; subst hi
        obtain ⟨a, rfl, rfl⟩ := DataW.trod_bool ht hx
        exact ⟨_, _, _, rfl, hx⟩
      · simp at h
    · rename_i e ht
      split at h
      · injection h with h; subst h; rename_i hi; subst hi
        rcases open_slice ht hx with ⟨rfl, _⟩ | ⟨a, len, cap, m, k, D, Pl, rfl, _⟩
        · exact ⟨_, _, _, rfl, hx⟩
        · exact ⟨_, _, _, rfl, hx⟩
      · simp at h
    · simp at h

theorem leaf_int {n : Nat} {t u : TypeId} {i fuel : Nat} {k : IntKind} {cs : List Value} {x : DataW H × List MemPlace} (h : leafAt P n t i = some u) (hu : P.underlying u = some (.int k))
    (hx : DataW.trod enc P w base spare held fuel t cs = some x) : ∃ a, cs[i]? = some (.int k a) ∧ (Lit.int k a).wf = true := by
  obtain ⟨v, y, f', hv, hy⟩ := leaf_trod n h hx
  obtain ⟨a, e, -, wf⟩ := DataW.trod_int hu hy
  injection e with e; subst e
  exact ⟨a, hv, wf⟩

theorem leaf_bool {n : Nat} {t u : TypeId} {i fuel : Nat} {cs : List Value} {x : DataW H × List MemPlace} (h : leafAt P n t i = some u) (hu : P.underlying u = some .bool)
    (hx : DataW.trod enc P w base spare held fuel t cs = some x) : ∃ a, cs[i]? = some (.bool a) := by
  obtain ⟨v, y, f', hv, hy⟩ := leaf_trod n h hx
  obtain ⟨a, e, -⟩ := DataW.trod_bool hu hy
  injection e with e; subst e
  exact ⟨a, hv⟩

/-- All the leaves of a type are integers of one kind. -/
def allInts (P : Program) (n : Nat) (t : TypeId) (k : IntKind) (N : Nat) : Bool :=
  (List.range N).all fun i => match leafAt P n t i with
    | some u => match P.underlying u with
      | some (.int k') => k' == k
      | _ => false
    | none => false

theorem leaf_ints {n : Nat} {t : TypeId} {k : IntKind} {N fuel : Nat} {cs : List Value} {x : DataW H × List MemPlace} (h : allInts P n t k N = true) (hl : cs.length = N)
    (hx : DataW.trod enc P w base spare held fuel t cs = some x) : ∃ l : List Int, l.length = N ∧ cs = l.map (Value.int k) ∧ ∀ a ∈ l, (Lit.int k a).wf = true := by
  have hi : ∀ i, i < cs.length → ∃ a, cs[i]? = some (.int k a) ∧ (Lit.int k a).wf = true := by
    intro i hi
    simp only [allInts, List.all_eq_true, List.mem_range] at h
    have h1 := h i (by omega)
    split at h1
    · rename_i u hu
      split at h1
      · rename_i k' hk
        rw [beq_iff_eq] at h1
        subst h1
        exact leaf_int hu hk hx
      · simp at h1
    · simp at h1
  subst hl
  clear h hx
  induction cs with
  | nil => exact ⟨[], rfl, rfl, by simp⟩
  | cons c cs ih =>
    obtain ⟨a, ha, wa⟩ := hi 0 (by simp)
    simp only [List.getElem?_cons_zero, Option.some.injEq] at ha
    obtain ⟨l, h1, h2, h3⟩ := ih fun i h => by
      have := hi (i + 1) (by simpa using h)
      simpa using this
    exact ⟨a :: l, by simp [h1], by simp [ha, h2], by simp [wa]; exact h3⟩

theorem okWide_array {r : Reach} {b0 : Nat} {t : TypeId} {n : Nat} {e : TypeId} {v : Value} (ht : P.underlying t = some (.array n e)) (h : Value.okWide P w r b0 t v) : ∃ cs, v = .agg cs ∧ cs.size = P.cellsOf t := by
  simp only [Value.okWide, ht] at h
  obtain ⟨cs, h1, h2, _⟩ := h
  exact ⟨cs, h1, h2⟩
end
section
theorem len1 {α : Type} {l : List α} (h : l.length = 1) : ∃ a, l = [a] := by
  match l, h with | [a], _ => exact ⟨a, rfl⟩
theorem len2 {α : Type} {l : List α} (h : l.length = 2) : ∃ a b, l = [a, b] := by
  match l, h with | [a, b], _ => exact ⟨a, b, rfl⟩
theorem len3 {α : Type} {l : List α} (h : l.length = 3) : ∃ a b c, l = [a, b, c] := by
  match l, h with | [a, b, c], _ => exact ⟨a, b, c, rfl⟩
theorem len4 {α : Type} {l : List α} (h : l.length = 4) : ∃ a b c d, l = [a, b, c, d] := by
  match l, h with | [a, b, c, d], _ => exact ⟨a, b, c, d, rfl⟩
theorem len5 {α : Type} {l : List α} (h : l.length = 5) : ∃ a b c d e, l = [a, b, c, d, e] := by
  match l, h with | [a, b, c, d, e], _ => exact ⟨a, b, c, d, e, rfl⟩
theorem len9 {α : Type} {l : List α} (h : l.length = 9) : ∃ a b c d e f g i j, l = [a, b, c, d, e, f, g, i, j] := by
  match l, h with | [a, b, c, d, e, f, g, i, j], _ => exact ⟨a, b, c, d, e, f, g, i, j, rfl⟩
theorem len11 {α : Type} {l : List α} (h : l.length = 11) : ∃ a b c d e f g i j k m, l = [a, b, c, d, e, f, g, i, j, k, m] := by
  match l, h with | [a, b, c, d, e, f, g, i, j, k, m], _ => exact ⟨a, b, c, d, e, f, g, i, j, k, m, rfl⟩
theorem len12 {α : Type} {l : List α} (h : l.length = 12) : ∃ a b c d e f g i j k m n, l = [a, b, c, d, e, f, g, i, j, k, m, n] := by
  match l, h with | [a, b, c, d, e, f, g, i, j, k, m, n], _ => exact ⟨a, b, c, d, e, f, g, i, j, k, m, n, rfl⟩
end
end Go.Proofs.Ytcppgigndpepnaa
