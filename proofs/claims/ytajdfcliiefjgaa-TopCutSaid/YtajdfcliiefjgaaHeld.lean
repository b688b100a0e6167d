/-
  Slices of structs of n plain cells, read and made.
  Conditions: none.
-/
import Derived.Test.YtajdfcliiefjgaaBase
import Derived.Test.YtajdfcliiefjgaaStill
namespace Go.Proofs.Ytajdfcliiefjgaa
open Go.RowKit
section
variable {α : Type} {n : Nat} {f : α → List Value}
def Held (n : Nat) (f : α → List Value) (w : World) (v : Value) (l : List α) : Prop :=
  ∃ (pa : Option Addr) (b o cap : Nat), v = .slice pa l.length cap ∧ (0 < l.length → pa = some ⟨b, o, none⟩) ∧ l.length ≤ cap ∧ cap ≤ maxLen ∧ ∀ i x, l[i]? = some x → ∀ j u, (f x)[j]? = some u → w.cell? ⟨b, o + i * n + j, none⟩ = some u
theorem cells_below {w w' : World} {b o : Nat} {x : α} (h : ∀ j u, (f x)[j]? = some u → w.cell? ⟨b, o + j, none⟩ = some u) (hb : Below w.heap.size w w') : ∀ j u, (f x)[j]? = some u → w'.cell? ⟨b, o + j, none⟩ = some u :=
  fun j u hu => ((after hb).1 _ _ (by simp [h j u hu])).trans (h j u hu)
theorem Held.below {w w' : World} {v : Value} {l : List α} (h : Held n f w v l) (hb : Below w.heap.size w w') : Held n f w' v l := by
  obtain ⟨pa, b, o, cap, rfl, h1, h2, h3, h4⟩ := h
  exact ⟨pa, b, o, cap, rfl, h1, h2, h3, fun i x hx => cells_below (h4 i x hx) hb⟩
theorem flat_len (hn : ∀ x, (f x).length = n) : ∀ l : List α, (l.flatMap f).length = l.length * n
  | [] => by simp
  | d :: l => by simp only [List.flatMap_cons, List.length_append, flat_len hn l, hn, List.length_cons, Nat.add_mul, Nat.one_mul]; omega
theorem flat_at (hn : ∀ x, (f x).length = n) : ∀ (l : List α) (i : Nat) (x : α) (j : Nat) (u : Value), l[i]? = some x → (f x)[j]? = some u → (l.flatMap f)[i * n + j]? = some u
  | [], i, x, j, u, h, _ => by simp at h
  | d :: l, 0, x, j, u, h, hu => by
    obtain rfl : d = x := by simpa using h
    have hj := (List.getElem?_eq_some_iff.1 hu).1
    rw [List.flatMap_cons, Nat.zero_mul, Nat.zero_add, List.getElem?_append_left hj]
    exact hu
  | d :: l, i + 1, x, j, u, h, hu => by
    have e : (i + 1) * n + j = (f d).length + (i * n + j) := by rw [hn, Nat.add_mul, Nat.one_mul]; omega
    rw [List.flatMap_cons, e, List.getElem?_append_right (Nat.le_add_right _ _), Nat.add_sub_cancel_left]
    exact flat_at hn l i x j u (by simpa using h) hu
theorem held_own {t : TypeId} {base : Nat} {w : World} {v : Value} {l : List α} (hn : ∀ x, (f x).length = n) (h : w.ownsRow base t n v l.length (l.flatMap f)) : Held n f w v l := by
  rcases h.2 with ⟨rfl, h0⟩ | ⟨g, cap, cur, rfl, hg, hh, h1, h2, h3, h4⟩
  · refine ⟨none, 0, 0, 0, by rw [h0], fun hp => by omega, by omega, by omega, fun i p hp => ?_⟩
    have := (List.getElem?_eq_some_iff.1 hp).1
    omega
  · refine ⟨_, g, 0, cap, rfl, fun _ => rfl, h1, h2, fun i p hp j u hu => ?_⟩
    have hi := (List.getElem?_eq_some_iff.1 hp).1
    have hj := (List.getElem?_eq_some_iff.1 hu).1
    rw [hn] at hj
    have hb : i * n + j < l.length * n := by
      have : (i + 1) * n ≤ l.length * n := Nat.mul_le_mul_right _ hi
      rw [Nat.add_mul, Nat.one_mul] at this
      omega
    have e0 := World.ownsRow.cellAt h (i * n + j) hb
    have e1 := flat_at hn l i p j u hp hu
    rw [Nat.zero_add, e0, e1]
theorem held_take {w : World} {pa : Option Addr} {len cap c m : Nat} {l : List α} (h : Held n f w (.slice pa len cap) l) (hm : m ≤ l.length) (hc : m ≤ c) (hc2 : c ≤ cap) : Held n f w (.slice pa m c) (l.take m) := by
  obtain ⟨pb, b, o, cap', hv, h1, h2, h3, h4⟩ := h
  obtain ⟨rfl, rfl, rfl⟩ : pa = pb ∧ len = l.length ∧ cap = cap' := by simpa using hv
  have hl : (l.take m).length = m := by rw [List.length_take]; omega
  refine ⟨pa, b, o, c, by rw [hl], fun hp => h1 (by omega), by omega, by omega, fun i x hx => ?_⟩
  rw [List.getElem?_take] at hx
  split at hx
  · exact h4 i x hx
  · simp at hx
theorem held_nil (w : World) (pa : Option Addr) (c : Nat) (hc : c ≤ maxLen) : Held n f w (.slice pa 0 c) [] := ⟨pa, 0, 0, c, rfl, fun h => by simp at h, by simp, hc, fun i x h => by simp at h⟩
theorem own_push {t : TypeId} {base : Nat} {w : World} {v : Value} {l : List α} {d : α} (h : w.ownsRow base t n v (l.length + 1) (l.flatMap f ++ f d)) : w.ownsRow base t n v (l ++ [d]).length ((l ++ [d]).flatMap f) := by
  simpa [List.flatMap_append] using h
end
/-- Bounds and lines as they lie in memory. -/
def cB (b : Int × Int × Int) : List Value := [.int .i64 b.1, .int .i64 b.2.1, .int .i64 b.2.2]
def cL (x : Int × Int × Int × Int) : List Value := [.int .i64 x.1, .int .i64 x.2.1, .int .i64 x.2.2.1, .int .i64 x.2.2.2]
theorem cB_len (b : Int × Int × Int) : (cB b).length = 3 := rfl
theorem cL_len (b : Int × Int × Int × Int) : (cL b).length = 4 := rfl
theorem cB_one (b : Int × Int × Int) : ∀ u ∈ cB b, u.oneCell' = true := by
  intro u hu
  simp only [cB, List.mem_cons, List.not_mem_nil, or_false] at hu
  rcases hu with rfl | rfl | rfl <;> rfl
theorem cL_one (b : Int × Int × Int × Int) : ∀ u ∈ cL b, u.oneCell' = true := by
  intro u hu
  simp only [cL, List.mem_cons, List.not_mem_nil, or_false] at hu
  rcases hu with rfl | rfl | rfl | rfl <;> rfl
theorem cB_at {w : World} {b o : Nat} {x : Int × Int × Int} (h : ∀ j u, (cB x)[j]? = some u → w.cell? ⟨b, o + j, none⟩ = some u) : w.cell? ⟨b, o, none⟩ = some (.int .i64 x.1) ∧ w.cell? ⟨b, o + 1, none⟩ = some (.int .i64 x.2.1) ∧ w.cell? ⟨b, o + 2, none⟩ = some (.int .i64 x.2.2) := ⟨h 0 _ rfl, h 1 _ rfl, h 2 _ rfl⟩
theorem cL_at {w : World} {b o : Nat} {x : Int × Int × Int × Int} (h : ∀ j u, (cL x)[j]? = some u → w.cell? ⟨b, o + j, none⟩ = some u) : w.cell? ⟨b, o, none⟩ = some (.int .i64 x.1) ∧ w.cell? ⟨b, o + 1, none⟩ = some (.int .i64 x.2.1) ∧ w.cell? ⟨b, o + 2, none⟩ = some (.int .i64 x.2.2.1) ∧ w.cell? ⟨b, o + 3, none⟩ = some (.int .i64 x.2.2.2) := ⟨h 0 _ rfl, h 1 _ rfl, h 2 _ rfl, h 3 _ rfl⟩
abbrev Bnds (w : World) (v : Value) (l : List (Int × Int × Int)) : Prop := Held 3 cB w v l
abbrev Lns (w : World) (v : Value) (l : List (Int × Int × Int × Int)) : Prop := Held 4 cL w v l
end Go.Proofs.Ytajdfcliiefjgaa
