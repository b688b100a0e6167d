/-
  The search from the source, in plain Lean; arcs made and set in memory.
  Conditions: none.
-/
import Derived.Test.YtajdfcliiefjgaaFlowVal
namespace Go.Proofs.Ytajdfcliiefjgaa
open Go.RowKit
theorem cutF_len {c : List Bool} {v : Int} (h : cutF c v = true) : v.toNat < c.length := by
  unfold cutF at h
  cases hc : c[v.toNat]? with
  | none => rw [hc] at h; cases h
  | some x => exact (List.getElem?_eq_some_iff.1 hc).1
theorem cutF_set {c : List Bool} {v u : Int} (hv : 0 ≤ v) (hl : v.toNat < c.length) (hu : 0 ≤ u) : cutF (c.set v.toNat true) u = (decide (u = v) || cutF c u) := by
  unfold cutF
  rw [List.getElem?_set]
  by_cases e : u = v
  · subst e; rw [if_pos rfl, if_pos hl]; simp
  · rw [if_neg (by omega)]; simp [e]
/-- The edges up to i are shut at the node n: whoever can be reached from it is in l. -/
def shutAt (es : List ED) (f : List Int) (l : List Int) (n : Int) (i : Nat) : Prop := ∀ (j : Nat) (e : ED), j < i → es[j]? = some e → (e.1 = n → 0 < roomA es f (j, false) → e.2.1 ∈ l) ∧ (e.2.1 = n → 0 < roomA es f (j, true) → e.1 ∈ l)
structure Bfs (N : Nat) (s : Int) (es : List ED) (f : List Int) (c : List Bool) (b : List AR) (l : List Int) (h : Nat) : Prop where
  clen : c.length = N
  blen : b.length = N
  inr : ∀ v ∈ l, 0 ≤ v ∧ v < N
  seen : ∀ v : Int, 0 ≤ v → v < N → (cutF c v = true ↔ v ∈ l)
  src : s ∈ l
  arcs : ∀ v ∈ l, v ≠ s → ∃ a, b[v.toNat]? = some a ∧ a.1 < es.length ∧ hdA (edAt es a.1) a.2 = v ∧ tlA (edAt es a.1) a.2 ∈ l ∧ l.idxOf (tlA (edAt es a.1) a.2) < l.idxOf v ∧ 0 < roomA es f a
  cnt : l.length + c.count false = N
  hle : h ≤ l.length
  shut : ∀ k n, k < h → l[k]? = some n → shutAt es f l n es.length
theorem count_set {c : List Bool} {k : Nat} (h : c[k]? = some false) : (c.set k true).count false + 1 = c.count false := by
  induction c generalizing k with
  | nil => simp at h
  | cons x c ih =>
    cases k with
    | zero => simp at h; subst h; simp
    | succ k =>
      have := ih (k := k) (by simpa using h)
      simp only [List.set_cons_succ, List.count_cons]
      omega
theorem Bfs.start {N : Nat} {s : Int} {es : List ED} {f : List Int} (h0 : 0 ≤ s) (h1 : s < N) : Bfs N s es f ((List.replicate N false).set s.toNat true) (List.replicate N (0, false)) [s] 0 := by
  have hc : cutF (List.replicate N false) = fun _ => false := by
    funext v; unfold cutF; rw [List.getElem?_replicate]; split <;> rfl
  refine ⟨by simp, by simp, ?_, ?_, by simp, ?_, ?_, Nat.zero_le _, fun k n hk => by omega⟩
  · intro v hv; simp at hv; subst hv; exact ⟨h0, h1⟩
  · intro v a1 a2
    rw [cutF_set h0 (by simp; omega) a1, hc]
    simp
  · intro v hv hne; simp at hv; exact absurd hv hne
  · have := count_set (c := List.replicate N false) (k := s.toNat) (by rw [List.getElem?_replicate, if_pos (by omega)])
    rw [List.count_replicate_self] at this
    simp only [List.length_singleton]
    omega
theorem idx_app {l : List Int} {u v : Int} (h : u ∈ l) : (l ++ [v]).idxOf u = l.idxOf u := by rw [List.idxOf_append, if_pos h]
theorem Bfs.push {N : Nat} {s : Int} {es : List ED} {f : List Int} {c : List Bool} {b : List AR} {l : List Int} {h : Nat} (H : Bfs N s es f c b l h) {v : Int} {a : AR} (v0 : 0 ≤ v) (v1 : v < N) (hv : cutF c v = false) (ha : a.1 < es.length) (hh : hdA (edAt es a.1) a.2 = v) (ht : tlA (edAt es a.1) a.2 ∈ l) (hr : 0 < roomA es f a) :
    Bfs N s es f (c.set v.toNat true) (b.set v.toNat a) (l ++ [v]) h ∧ (c.set v.toNat true).count false + 1 = c.count false := by
  have hvl : v ∉ l := fun q => by rw [(H.seen v v0 v1).2 q] at hv; cases hv
  have hlt : v.toNat < c.length := by rw [H.clen]; omega
  have hcv : c[v.toNat]? = some false := by
    unfold cutF at hv
    rw [List.getElem?_eq_getElem hlt] at hv ⊢
    simpa using hv
  have hcs := count_set hcv
  refine ⟨⟨by rw [List.length_set, H.clen], by rw [List.length_set, H.blen], ?_, ?_, List.mem_append_left _ H.src, ?_, ?_, by have := H.hle; rw [List.length_append]; omega, ?_⟩, hcs⟩
  · intro u hu
    rcases List.mem_append.1 hu with hu | hu
    · exact H.inr u hu
    · simp at hu; subst hu; exact ⟨v0, v1⟩
  · intro u u0 u1
    rw [cutF_set v0 hlt u0, List.mem_append, Bool.or_eq_true, decide_eq_true_eq, H.seen u u0 u1, List.mem_singleton]
    exact Or.comm
  · intro u hu hus
    rcases List.mem_append.1 hu with hu | hu
    · obtain ⟨x, h1, h2, h3, h4, h5, h6⟩ := H.arcs u hu hus
      have := H.inr u hu
      have hne : u ≠ v := fun e => hvl (e ▸ hu)
      refine ⟨x, ?_, h2, h3, List.mem_append_left _ h4, ?_, h6⟩
      · rw [List.getElem?_set_ne (by omega)]; exact h1
      · rw [idx_app h4, idx_app hu]; exact h5
    · simp at hu; subst hu
      refine ⟨a, ?_, ha, hh, List.mem_append_left _ ht, ?_, hr⟩
      · rw [List.getElem?_set_self (by rw [H.blen, ← H.clen]; exact hlt)]
      · rw [idx_app ht, List.idxOf_append, if_neg hvl]
        have := List.idxOf_lt_length_of_mem ht
        omega
  · have := H.cnt
    rw [List.length_append, List.length_singleton]
    omega
  · intro k n hk hn j e hj he
    have hkl : k < l.length := Nat.lt_of_lt_of_le hk H.hle
    rw [List.getElem?_append_left hkl] at hn
    obtain ⟨p1, p2⟩ := H.shut k n hk hn j e hj he
    exact ⟨fun q1 q2 => List.mem_append_left _ (p1 q1 q2), fun q1 q2 => List.mem_append_left _ (p2 q1 q2)⟩
theorem Bfs.next {N : Nat} {s : Int} {es : List ED} {f : List Int} {c : List Bool} {b : List AR} {l : List Int} {h : Nat} {n : Int} (H : Bfs N s es f c b l h) (hn : l[h]? = some n) (hs : shutAt es f l n es.length) : Bfs N s es f c b l (h + 1) := by
  refine ⟨H.clen, H.blen, H.inr, H.seen, H.src, H.arcs, H.cnt, (List.getElem?_eq_some_iff.1 hn).1, fun k m hk hm => ?_⟩
  rcases Nat.lt_or_ge k h with q | q
  · exact H.shut k m q hm
  · obtain rfl : k = h := by omega
    rw [hn] at hm
    obtain rfl := Option.some.inj hm
    exact hs
theorem shutAt_zero (es : List ED) (f : List Int) (l : List Int) (n : Int) : shutAt es f l n 0 := fun j e hj => by omega
theorem shutAt_next {es : List ED} {f : List Int} {l : List Int} {n : Int} {i : Nat} {e : ED} (h : shutAt es f l n i) (he : es[i]? = some e) (h1 : e.1 = n → 0 < roomA es f (i, false) → e.2.1 ∈ l) (h2 : e.2.1 = n → 0 < roomA es f (i, true) → e.1 ∈ l) : shutAt es f l n (i + 1) := by
  intro j x hj hx
  rcases Nat.lt_or_ge j i with q | q
  · exact h j x q hx
  · obtain rfl : j = i := by omega
    rw [he] at hx
    obtain rfl := Option.some.inj hx
    exact ⟨h1, h2⟩
theorem shutAt_mono {es : List ED} {f : List Int} {l : List Int} {n v : Int} {i : Nat} (h : shutAt es f l n i) : shutAt es f (l ++ [v]) n i := fun j e hj he => ⟨fun a b => List.mem_append_left _ ((h j e hj he).1 a b), fun a b => List.mem_append_left _ ((h j e hj he).2 a b)⟩
theorem Bfs.done {N : Nat} {s : Int} {es : List ED} {f : List Int} {c : List Bool} {b : List AR} {l : List Int} (H : Bfs N s es f c b l l.length) (hN : inN N es) : shutP (cutF c) es f := by
  intro i e he
  obtain ⟨⟨a1, a2⟩, b1, b2⟩ := hN e (List.mem_of_getElem? he)
  have hi := (List.getElem?_eq_some_iff.1 he).1
  constructor
  · intro q1 q2 q3
    obtain ⟨k, hk, ek⟩ := List.getElem_of_mem ((H.seen e.1 a1 a2).1 q1)
    have := (H.shut k e.1 hk (by rw [← ek]; exact List.getElem?_eq_getElem hk) i e hi he).1 rfl q3
    rw [(H.seen e.2.1 b1 b2).2 this] at q2; cases q2
  · intro q1 q2 q3
    obtain ⟨k, hk, ek⟩ := List.getElem_of_mem ((H.seen e.2.1 b1 b2).1 q2)
    have := (H.shut k e.2.1 hk (by rw [← ek]; exact List.getElem?_eq_getElem hk) i e hi he).2 rfl q3
    rw [(H.seen e.1 a1 a2).2 this] at q1; cases q1
/-- Arcs in memory. -/
theorem arcs_set : ∀ {l : List AR} {k : Nat} {a : AR}, k < l.length → ((l.flatMap cA).set (k * 2) (.int .i64 (a.1 : Int))).set (k * 2 + 1) (.bool a.2) = (l.set k a).flatMap cA
  | [], k, a, h => by simp at h
  | x :: l, 0, a, h => by simp [cA]
  | x :: l, k + 1, a, h => by
    have := arcs_set (l := l) (k := k) (a := a) (by simpa using h)
    rw [show (k + 1) * 2 = k * 2 + 1 + 1 by omega]
    simp only [List.flatMap_cons, cA, List.set_cons_succ, List.cons_append, List.nil_append]
    rw [← this]
theorem arcs_made (N : Nat) : madeCells #[.int .i64 0, .bool false] (N * 2) = ((List.replicate N ((0, false) : AR)).flatMap cA).toArray := by
  apply Array.ext'
  unfold madeCells
  rw [Array.toList_map, Array.toList_range]
  induction N with
  | zero => rfl
  | succ N ih =>
    rw [show (N + 1) * 2 = N * 2 + 1 + 1 by omega, List.range_succ, List.range_succ, List.replicate_succ', List.flatMap_append]
    simp only [List.map_append, ih, List.map_cons, List.map_nil]
    simp [cA]
theorem heap_arcs {w : World} {g k : Nat} {t : TypeId} {fr : Nat × Nat} {l : List AR} {a : AR} (h : w.heap[g]? = some (.cells (l.flatMap cA).toArray t fr)) (hk : k < l.length) : ((w.setCell ⟨g, k * 2, none⟩ (.int .i64 (a.1 : Int))).setCell ⟨g, k * 2 + 1, none⟩ (.bool a.2)).heap[g]? = some (.cells ((l.set k a).flatMap cA).toArray t fr) := by
  have := heap_set (o := k * 2 + 1) (v := .bool a.2) (heap_set (o := k * 2) (v := .int .i64 (a.1 : Int)) h)
  rwa [List.setIfInBounds_toArray, List.setIfInBounds_toArray, arcs_set hk] at this
theorem held_arcs {w : World} {g k : Nat} {t : TypeId} {fr : Nat × Nat} {l : List AR} (h : w.heap[g]? = some (.cells (l.flatMap cA).toArray t fr)) (hk : l.length = k) (hm : k ≤ maxLen) : Held 2 cA w (.slice (some ⟨g, 0, none⟩) k k) l := by
  subst hk
  refine ⟨_, g, 0, _, rfl, fun _ => rfl, Nat.le_refl _, hm, fun i x hx j u hu => ?_⟩
  rw [Nat.zero_add]
  exact cell_heap h (by rw [List.getElem?_toArray]; exact flat_at cA_len l i x j u hx hu)
end Go.Proofs.Ytajdfcliiefjgaa
