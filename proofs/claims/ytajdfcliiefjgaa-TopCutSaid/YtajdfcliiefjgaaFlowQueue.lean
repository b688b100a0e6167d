/-
  A queue: a slice of one's own, resliced at its head and appended to.
  Conditions: none.
-/
import Derived.Test.YtajdfcliiefjgaaFlowMem
import Derived.Deep.AppendSrc
import Derived.Laws.AppendOwn
namespace Go.Proofs.Ytajdfcliiefjgaa
open Go.RowKit
def QOwn (w : World) (base : Nat) (e : TypeId) (v : Value) (xs : List Int) : Prop :=
  ∃ (g o cap : Nat) (cur : Array Value), v = .slice (some ⟨g, o, none⟩) xs.length cap ∧ base ≤ g ∧ w.heap[g]? = some (.cells cur e (0, 0)) ∧ xs.length ≤ cap ∧ cap ≤ maxLen ∧ o + cap ≤ cur.size ∧ ∀ i x, xs[i]? = some x → cur[o + i]? = some (.int .i64 x)
theorem QOwn.lt {w : World} {base : Nat} {e : TypeId} {v : Value} {xs : List Int} (h : QOwn w base e v xs) : ∃ g, v.ownBlock = some g ∧ base ≤ g ∧ g < w.heap.size := by
  obtain ⟨g, o, cap, cur, rfl, h1, h2, _⟩ := h
  exact ⟨g, rfl, h1, (Array.getElem?_eq_some_iff.1 h2).1⟩
theorem QOwn.kept {w w' : World} {base : Nat} {e : TypeId} {v : Value} {xs : List Int} (h : QOwn w base e v xs) (hk : ∀ g, v.ownBlock = some g → w'.heap[g]? = w.heap[g]?) : QOwn w' base e v xs := by
  obtain ⟨g, o, cap, cur, rfl, h1, h2, h3⟩ := h
  exact ⟨g, o, cap, cur, rfl, h1, (hk g rfl).trans h2, h3⟩
theorem QOwn.below {w w' : World} {base : Nat} {e : TypeId} {v : Value} {xs : List Int} (h : QOwn w base e v xs) (hb : Below w.heap.size w w') : QOwn w' base e v xs :=
  h.kept fun g hg => by
    obtain ⟨g', h1, _, h3⟩ := h.lt
    rw [hg] at h1
    obtain rfl := Option.some.inj h1
    exact hb.block g h3
theorem QOwn.set_other {w : World} {base k o : Nat} {e : TypeId} {v u : Value} {xs : List Int} (h : QOwn w base e v xs) (hk : v.ownBlock ≠ some k) : QOwn (w.setCell ⟨k, o, none⟩ u) base e v xs :=
  h.kept fun g hg => Below.heap_setCell w _ u g (by intro q; apply hk; rw [hg]; exact congrArg some q)
theorem q_grow {P : Program} {w : World} {base : Nat} {e : TypeId} {v : Value} {xs : List Int} (hq : QOwn w base e v xs) (t ty : TypeId) (i : TypeInfo) (z : Value) (ht : P.underlying t = some (.slice e)) (hi : P.info? e = some i) (hz : i.zero = some z) (hsize : i.size = 1) (hby : i.bytes = 8) (hzs : z.cells.size = 1)
    (ad : Addr) (c : Nat) (y : Int) (hc : w.cell? ad = some (.int .i64 y)) (hx : xs.length ≤ 1000) (hbase : base ≤ w.heap.size) :
    ∃ v' w', (Builtin.append_ #[t, t] ty #[v, .slice (some ad) 1 c]).run P w = .ok v' w' ∧ QOwn w' base e v' (xs ++ [y]) ∧ w.grownBy w' v.ownBlock ∧ (v'.ownBlock = v.ownBlock ∨ v'.ownBlock = some w.heap.size) := by
  obtain ⟨g, o, cap, cur, rfl, h1, h2, h3, h4, h5, h6⟩ := hq
  have hsrc : Src P i.size t (.slice (some ad) 1 c) 1 [.int .i64 y] w := Src.ofSlice w ht ad 1 c [.int .i64 y] (by rw [hsize]; rfl) (by
    intro j u hj
    match j, hj with
    | 0, hj =>
      simp at hj
      subst hj
      simpa [Addr.add] using hc) (fun u hu => by simp at hu; subst hu; rfl)
  by_cases hroom : xs.length + 1 ≤ cap
  · have hlt : o + xs.length < cur.size := by omega
    have hcell : ∃ q, w.cell? ⟨g, o + xs.length, none⟩ = some q := ⟨_, cell_heap (o := o + xs.length) h2 (Array.getElem?_eq_getElem hlt)⟩
    obtain ⟨q, hq⟩ := hcell
    have hr := run_append_room_src (P := P) w t t ty e i ht hi g o xs.length cap (.slice (some ad) 1 c) 1 [.int .i64 y] hsrc hroom (by
      intro j hj
      have : j = 0 := by simpa using hj
      subst this
      rw [hsize, Nat.mul_one, Nat.add_zero, hq]; rfl) (by
      intro j hj
      have : j = 0 := by simpa using hj
      subst this
      rw [hsize, Nat.mul_one, Nat.add_zero]
      exact frozen_heap (o := o + xs.length) h2)
    refine ⟨_, _, hr, ⟨g, o, cap, cur.setIfInBounds (o + xs.length) (.int .i64 y), by simp, h1, ?_, by simp; omega, h4, by simp; omega, ?_⟩, ⟨rfl, rfl, rfl, ?_, ?_⟩, .inl rfl⟩
    · rw [hsize, Nat.mul_one]
      exact heap_set (o := o + xs.length) h2
    · intro j x hj
      rcases Nat.lt_or_ge j xs.length with hl | hl
      · rw [List.getElem?_append_left hl] at hj
        rw [Array.getElem?_setIfInBounds, if_neg (by omega)]
        exact h6 j x hj
      · rw [List.getElem?_append_right hl] at hj
        have hj0 : j = xs.length := by have := (List.getElem?_eq_some_iff.1 hj).1; simp at this; omega
        subst hj0
        simp at hj
        subst hj
        rw [Array.getElem?_setIfInBounds, if_pos rfl, if_pos hlt]
    · show w.heap.size ≤ (w.setCell ⟨g, o + xs.length * i.size, none⟩ (.int .i64 y)).heap.size
      exact (Below.setCell (Below.refl 0 w) (Nat.zero_le _) _ (p := ⟨g, o + xs.length * i.size, none⟩)).size
    · intro k _ hk
      exact Below.heap_setCell w _ _ k (fun q => hk (by rw [q]; rfl))
  · have hr := run_append_grow (P := P) w t ty e i z ht hi hz ⟨g, o, none⟩ xs.length cap (xs.map fun x => .int .i64 x) (by rw [hsize]; simp) (by
      intro j u hj
      rw [List.getElem?_map] at hj
      cases hx : xs[j]? with
      | none => rw [hx] at hj; simp at hj
      | some x =>
        rw [hx] at hj
        simp at hj
        subst hj
        rw [Addr.add_lit]
        exact cell_heap h2 (h6 j x hx)) ad 1 c [.int .i64 y] (by rw [hsize]; rfl) (by
      intro j u hj
      match j, hj with
      | 0, hj =>
        simp at hj
        subst hj
        simpa [Addr.add] using hc) (by omega) (by omega) (by
        rw [hby]
        exact growslice_fits (by omega) (by omega))
    have hge := grownCap_ge w (xs.length + 1) cap e
    have hcm : grownCap w (xs.length + 1) cap e ≤ maxLen := grownCap_le_maxLen w (xs.length + 1) cap e (by unfold maxLen; omega)
    refine ⟨_, _, hr, ⟨w.heap.size, 0, _, _, by simp, hbase, heap_new w.drew _ rfl, by simp; exact hge, hcm, ?_, ?_⟩, ⟨rfl, rfl, rfl, by simp, fun k hk _ => Below.heap_alloc w.drew _ k hk⟩, .inr rfl⟩
    · simp only [Array.size_append, List.size_toArray, size_zeroCells, hzs, List.length_map]
      simp
      omega
    · intro j x hj
      have hlt : j < xs.length + 1 := by have := (List.getElem?_eq_some_iff.1 hj).1; simpa using this
      rw [Nat.zero_add, Array.getElem?_append_left (by simp; omega)]
      rw [show ((List.map (fun x => Value.int .i64 x) xs).toArray ++ [Value.int .i64 y].toArray) = ((xs ++ [y]).map (fun x => Value.int .i64 x)).toArray by simp]
      have := congrArg (Option.map (fun x => Value.int .i64 x)) hj
      rw [← List.getElem?_map] at this
      simpa using this
/-- At the operation. -/
theorem wpList_append_q {P : Program} {w : World} {ops : Array Oper} {rest : List Oper} {op : Oper} {a : Act} {Q : Exit → Act → World → Prop} (hgd : op.guard = none) (s x : Operand) (t : TypeId)
    (ho : op.op = .call { callee := .builtin .append, args := #[s, x], argTypes := #[t, t] })
    (base : Nat) (e : TypeId) (i : TypeInfo) (z : Value) (ht : P.underlying t = some (.slice e)) (hi : P.info? e = some i) (hz : i.zero = some z) (hsize : i.size = 1) (hby : i.bytes = 8) (hzs : z.cells.size = 1)
    (v : Value) (xs : List Int) (hs : a.eval s = v) (hq : QOwn w base e v xs) (ad : Addr) (c : Nat) (y : Int) (hx : a.eval x = .slice (some ad) 1 c) (hc : w.cell? ad = some (.int .i64 y)) (hl : xs.length ≤ 1000) (hbase : base ≤ w.heap.size)
    (h : ∀ v' w', QOwn w' base e v' (xs ++ [y]) → w.grownBy w' v.ownBlock → (v'.ownBlock = v.ownBlock ∨ v'.ownBlock = some w.heap.size) → wpList P ops Q rest (a.put op.dst v') w') :
    wpList P ops Q (op :: rest) a w := by
  refine wpList_plain hgd fun K hK => ?_
  obtain ⟨v', w', hr, h2, h3, h4⟩ := q_grow (P := P) hq t op.type i z ht hi hz hsize hby hzs ad c y hc hl hbase
  unfold Oper.wp execOp
  simp only [ho, resolve, invoke, builtin, Sem.run_bind, Sem.run_pure, Result.andThen_ok, List.map_toArray, List.map_cons, List.map_nil, hs, hx, hr]
  exact hK _ _ (h v' w' h2 h3 h4)
end Go.Proofs.Ytajdfcliiefjgaa
