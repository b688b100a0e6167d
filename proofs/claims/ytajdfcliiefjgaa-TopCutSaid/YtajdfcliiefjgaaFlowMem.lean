/-
  Rows of one cell each, edges and arcs as they lie in memory; contract of node.
  Conditions: none.
-/
import Derived.Test.YtajdfcliiefjgaaHeld
import Derived.Test.YtajdfcliiefjgaaFlowPlain
namespace Go.Proofs.Ytajdfcliiefjgaa
open Go.RowKit
section
variable {α : Type} {f : α → Value}
/-- The slice v holds l, one cell each. -/
def Vec (f : α → Value) (w : World) (v : Value) (l : List α) : Prop :=
  ∃ (pa : Option Addr) (b o cap : Nat), v = .slice pa l.length cap ∧ (0 < l.length → pa = some ⟨b, o, none⟩) ∧ l.length ≤ cap ∧ cap ≤ maxLen ∧ ∀ i x, l[i]? = some x → w.cell? ⟨b, o + i, none⟩ = some (f x)
theorem Vec.below {w w' : World} {v : Value} {l : List α} (h : Vec f w v l) (hb : Below w.heap.size w w') : Vec f w' v l := by
  obtain ⟨pa, b, o, cap, rfl, h1, h2, h3, h4⟩ := h
  refine ⟨pa, b, o, cap, rfl, h1, h2, h3, fun i x hx => ?_⟩
  have c := h4 i x hx
  exact ((after hb).1 _ _ (by simp [c])).trans c
theorem vec_here {w : World} {g : Nat} {t : TypeId} {fr : Nat × Nat} {l : List α} {k : Nat} (h : w.heap[g]? = some (.cells (l.map f).toArray t fr)) (hk : l.length = k) (hm : k ≤ maxLen) : Vec f w (.slice (some ⟨g, 0, none⟩) k k) l := by
  subst hk
  refine ⟨_, g, 0, _, rfl, fun _ => rfl, Nat.le_refl _, hm, fun i x hx => ?_⟩
  rw [Nat.zero_add]
  exact cell_heap h (by simp [hx])
theorem heap_setV {w : World} {g a : Nat} {t : TypeId} {fr : Nat × Nat} {l : List α} {y : α} (h : w.heap[g]? = some (.cells (l.map f).toArray t fr)) : (w.setCell ⟨g, a, none⟩ (f y)).heap[g]? = some (.cells ((l.set a y).map f).toArray t fr) := by
  have := heap_set (o := a) (v := f y) h
  rwa [List.setIfInBounds_toArray, ← List.map_set] at this
theorem made_vec (z : α) (N : Nat) : Array.replicate N (f z) = ((List.replicate N z).map f).toArray := by simp
theorem cell_vec {w : World} {g i : Nat} {t : TypeId} {fr : Nat × Nat} {l : List α} {x : α} (h : w.heap[g]? = some (.cells (l.map f).toArray t fr)) (hx : l[i]? = some x) : w.cell? ⟨g, i, none⟩ = some (f x) := cell_heap h (by simp [hx])
end
def iV (x : Int) : Value := .int .i64 x
def bV (x : Bool) : Value := .bool x
/-- Arcs as they lie in memory. -/
def cA (a : AR) : List Value := [.int .i64 (a.1 : Int), .bool a.2]
theorem cA_len (a : AR) : (cA a).length = 2 := rfl
theorem cA_one (a : AR) : ∀ u ∈ cA a, u.oneCell' = true := by
  intro u hu
  simp only [cA, List.mem_cons, List.not_mem_nil, or_false] at hu
  rcases hu with rfl | rfl <;> rfl
abbrev Eds (w : World) (v : Value) (l : List ED) : Prop := Held 3 cB w v l
def nodeB (n x : Int) : Bool := decide (0 ≤ x ∧ x < n)
set_option maxHeartbeats 1000000 in
theorem node_any (n s t : Int) (v : Value) (x : Int) (w : World) : Calls Try.prog 11 #[(.agg #[.int .i64 n, .int .i64 s, .int .i64 t, v]), .int .i64 x] w fun e w' => e = .returned (.bool (nodeB n x)) ∧ Below w.heap.size w w' := by
  unfold nodeB
  go_enter Try.func11, Try.ntmps11
  go_wp2_with fail
  all_goals (go_ret; refine ⟨ret_bool ?_, (by repeat (first | with_reducible exact Below.refl _ _ | with_reducible assumption | with_reducible refine Below.drew ?_ | with_reducible refine Below.setCell ?_ (by first | omega | (simp; omega) | simp) _ | with_reducible refine Below.alloc ?_ (by first | omega | (simp; omega) | simp) _ | with_reducible refine Below.trans ?_ (Below.mono (by with_reducible assumption) (by first | omega | (simp; omega) | simp))))⟩; grind)
/-- The errors of a graph. -/
def chkEs (n : Int) : List ED → Int
  | e :: es => if (nodeB n e.1 && (nodeB n e.2.1 && decide (e.1 ≠ e.2.1))) = false then 1 else if e.2.2 < 0 ∨ 1073741824 < e.2.2 then 2 else chkEs n es
  | [] => 0
def chkG (n s t : Int) (es : List ED) : Int := if n < 2 ∨ 64 < n then 2 else if (nodeB n s && (nodeB n t && decide (s ≠ t))) = false then 1 else if 600 < es.length then 9 else chkEs n es
/-- A graph without error. -/
def okE (n : Int) (e : ED) : Prop := (0 ≤ e.1 ∧ e.1 < n) ∧ (0 ≤ e.2.1 ∧ e.2.1 < n) ∧ e.1 ≠ e.2.1 ∧ 0 ≤ e.2.2 ∧ e.2.2 ≤ 1073741824
theorem chkEs_iff (n : Int) : ∀ es : List ED, chkEs n es = 0 ↔ ∀ e ∈ es, okE n e
  | [] => by simp [chkEs]
  | e :: es => by
    have ih := chkEs_iff n es
    simp only [chkEs, List.mem_cons, forall_eq_or_imp]
    unfold okE nodeB
    by_cases c : (decide (0 ≤ e.1 ∧ e.1 < n) && (decide (0 ≤ e.2.1 ∧ e.2.1 < n) && decide (e.1 ≠ e.2.1))) = false
    · rw [if_pos c]
      constructor
      · intro h; omega
      · rintro ⟨⟨h1, h2, h3, _⟩, _⟩
        rw [decide_eq_true h1, decide_eq_true h2, decide_eq_true h3] at c
        simp at c
    · rw [if_neg c]
      have c' : (0 ≤ e.1 ∧ e.1 < n) ∧ (0 ≤ e.2.1 ∧ e.2.1 < n) ∧ e.1 ≠ e.2.1 := by simpa [and_assoc] using c
      split
      · rename_i h
        constructor
        · intro h; omega
        · rintro ⟨⟨_, _, _, h1, h2⟩, _⟩; omega
      · rename_i h
        rw [ih]
        exact ⟨fun q => ⟨⟨c'.1, c'.2.1, c'.2.2, by omega, by omega⟩, q⟩, fun q => q.2⟩
def okG (n s t : Int) (es : List ED) : Prop := (2 ≤ n ∧ n ≤ 64) ∧ (0 ≤ s ∧ s < n) ∧ (0 ≤ t ∧ t < n) ∧ s ≠ t ∧ es.length ≤ 600 ∧ ∀ e ∈ es, okE n e
theorem chkG_iff (n s t : Int) (es : List ED) : chkG n s t es = 0 ↔ okG n s t es := by
  unfold chkG okG nodeB
  by_cases c1 : n < 2 ∨ 64 < n
  · rw [if_pos c1]; constructor
    · intro h; omega
    · intro h; omega
  · rw [if_neg c1]
    by_cases c : (decide (0 ≤ s ∧ s < n) && (decide (0 ≤ t ∧ t < n) && decide (s ≠ t))) = false
    · rw [if_pos c]
      constructor
      · intro h; omega
      · rintro ⟨_, h1, h2, h3, _⟩
        rw [decide_eq_true h1, decide_eq_true h2, decide_eq_true h3] at c
        simp at c
    · rw [if_neg c]
      have c' : (0 ≤ s ∧ s < n) ∧ (0 ≤ t ∧ t < n) ∧ s ≠ t := by simpa [and_assoc] using c
      by_cases c2 : 600 < es.length
      · rw [if_pos c2]; constructor
        · intro h; omega
        · intro h; omega
      · rw [if_neg c2, chkEs_iff]
        exact ⟨fun q => ⟨by omega, c'.1, c'.2.1, c'.2.2, by omega, q⟩, fun q => q.2.2.2.2.2⟩
end Go.Proofs.Ytajdfcliiefjgaa
