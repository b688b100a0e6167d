/-
  The statements' own 'of': points as the program has them.
  Conditions: none.
-/
import Derived.Test.YtmdledlbkdcmnaaRLine
namespace Go.Proofs.Ytmdledlbkdcmnaa
open Go.RowKit
theorem own_below {w1 w2 : World} {base : Nat} {e : TypeId} {size : Nat} {v : Value} {n : Nat} {xs : List Value} (h : w1.ownsRow base e size v n xs) (hb : Below w1.heap.size w1 w2) : w2.ownsRow base e size v n xs := by
  obtain ⟨h1, h2⟩ := h
  refine ⟨h1, ?_⟩
  rcases h2 with h | ⟨g, cap, cur, a, b, c, d⟩
  · exact .inl h
  · exact .inr ⟨g, cap, cur, a, b, heap_old hb c, d⟩
def cells2 (p : PT) : List Value := [.int .i64 p.1, .int .i64 p.2]
theorem cells2_len (L : List PT) : (L.flatMap cells2).length = L.length * 2 := by
  induction L with
  | nil => rfl
  | cons d L ih => simp only [List.flatMap_cons, List.length_append, ih, List.length_cons]; simp [cells2]; omega
theorem cells2_at : ∀ (L : List PT) (i : Nat) (p : PT), L[i]? = some p → (L.flatMap cells2)[i * 2]? = some (.int .i64 p.1) ∧ (L.flatMap cells2)[i * 2 + 1]? = some (.int .i64 p.2)
  | [], i, p, h => by simp at h
  | d :: L, 0, p, h => by
    obtain rfl : d = p := by simpa using h
    simp [cells2]
  | d :: L, i + 1, p, h => by
    obtain ⟨a, b⟩ := cells2_at L i p (by simpa using h)
    have e1 : (i + 1) * 2 = i * 2 + 2 := by omega
    have e2 : (i + 1) * 2 + 1 = (i * 2 + 1) + 2 := by omega
    rw [e2, e1]
    exact ⟨by simpa [List.flatMap_cons, cells2] using a, by simpa [List.flatMap_cons, cells2] using b⟩
theorem cells_new (w : World) (cs : List Value) (t : TypeId) : ∀ j u, cs[j]? = some u → (w.alloc (.cells cs.toArray t)).cell? ((⟨w.heap.size, 0, none⟩ : Addr).add j) = some u := by
  intro j u h
  have e : (⟨w.heap.size, 0, none⟩ : Addr).add j = ⟨w.heap.size, j, none⟩ := by rw [Addr.add_lit]; simp
  rw [e]
  exact cell_heap (heap_new _ _ rfl) (by simpa using h)
/-- The world holds the points in the slice v, made since w. -/
def OwnPts (t : TypeId) (w wr : World) (v : Value) (L : List PT) : Prop := wr.ownsRow w.heap.size t 2 v L.length (L.flatMap cells2) ∧ Below w.heap.size w wr
theorem OwnPts.nil (t : TypeId) (w : World) : OwnPts t w w (.slice none 0 0) [] := ⟨World.ownsRow_nil _ _ _ _, Below.refl _ _⟩
theorem OwnPts.below {t : TypeId} {w wr w2 : World} {v : Value} {L : List PT} (h : OwnPts t w wr v L) (hb : Below wr.heap.size wr w2) : OwnPts t w w2 v L := ⟨own_below h.1 hb, h.2.trans (hb.mono h.2.size)⟩
theorem OwnPts.push {t : TypeId} {w w3 : World} {v : Value} {L : List PT} {d : PT} (h : w3.ownsRow w.heap.size t 2 v (L.length + 1) (L.flatMap cells2 ++ cells2 d)) (hb : Below w.heap.size w w3) : OwnPts t w w3 v (L ++ [d]) := by
  refine ⟨?_, hb⟩
  simpa [List.flatMap_append] using h
theorem OwnPts.pts {t : TypeId} {w wr : World} {v : Value} {L : List PT} (h : OwnPts t w wr v L) : Pts wr v L := by
  rcases h.1.2 with ⟨rfl, h0⟩ | ⟨g, cap, cur, rfl, hg, hh, h1, h2, h3, h4⟩
  · refine ⟨none, 0, 0, 0, by rw [h0], fun hp => by omega, by omega, by omega, fun i p hp => ?_⟩
    have := (List.getElem?_eq_some_iff.1 hp).1
    omega
  · refine ⟨_, g, 0, cap, rfl, fun _ => rfl, h1, h2, fun i p hp => ?_⟩
    have hi := (List.getElem?_eq_some_iff.1 hp).1
    obtain ⟨a, b⟩ := cells2_at L i p hp
    have e1 := World.ownsRow.cellAt h.1 (i * 2) (by omega)
    have e2 := World.ownsRow.cellAt h.1 (i * 2 + 1) (by omega)
    rw [Nat.zero_add, e1, e2]
    exact ⟨a, b⟩
def zeroP : Value := .agg #[.int .i64 0, .int .i64 0]

end Go.Proofs.Ytmdledlbkdcmnaa
