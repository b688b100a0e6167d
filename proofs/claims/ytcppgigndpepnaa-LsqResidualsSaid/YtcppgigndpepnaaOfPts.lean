/-
  The statements' own 'of': points as the program has them.
  Conditions: none.
-/
import Derived.Test.YtcppgigndpepnaaRLine
namespace Go.Proofs.Ytcppgigndpepnaa
open Go.RowKit
theorem own_below {w1 w2 : World} {base : Nat} {e : TypeId} {size : Nat} {v : Value} {n : Nat} {xs : List Value} (h : w1.ownsRow base e size v n xs) (hb : Below w1.heap.size w1 w2) : w2.ownsRow base e size v n xs := by
  obtain ⟨h1, h2⟩ := h
  refine ⟨h1, ?_⟩
  rcases h2 with h | ⟨g, cap, cur, a, b, c, d⟩
  · exact .inl h
  · exact .inr ⟨g, cap, cur, a, b, heap_old hb c, d⟩
def cells2 (p : PT) : List Value := [.int .i64 p.1, .int .i64 p.2]
theorem cells2_len (L : List PT) : (L.flatMap cells2).length = L.length * 2 := by
  induction L with
  | nil => rfl
  | cons d L ih => simp only [List.flatMap_cons, List.length_append, ih, List.length_cons]; simp [cells2]; omega
theorem cells2_at : ∀ (L : List PT) (i : Nat) (p : PT), L[i]? = some p → (L.flatMap cells2)[i * 2]? = some (.int .i64 p.1) ∧ (L.flatMap cells2)[i * 2 + 1]? = some (.int .i64 p.2)
  | [], i, p, h => by simp at h
  | d :: L, 0, p, h => by
    obtain rfl : d = p := by simpa using h
    simp [cells2]
  | d :: L, i + 1, p, h => by
    obtain ⟨a, b⟩ := cells2_at L i p (by simpa using h)
    have e1 : (i + 1) * 2 = i * 2 + 2 := by omega
    have e2 : (i + 1) * 2 + 1 = (i * 2 + 1) + 2 := by omega
    rw [e2, e1]
    exact ⟨by simpa [List.flatMap_cons, cells2] using a, by simpa [List.flatMap_cons, cells2] using b⟩
theorem cells_new (w : World) (cs : List Value) (t : TypeId) : ∀ j u, cs[j]? = some u → (w.alloc (.cells cs.toArray t)).cell? ((⟨w.heap.size, 0, none⟩ : Addr).add j) = some u := by
  intro j u h
  have e : (⟨w.heap.size, 0, none⟩ : Addr).add j = ⟨w.heap.size, j, none⟩ := by rw [Addr.add_lit]; simp
  rw [e]
  exact cell_heap (heap_new _ _ rfl) (by simpa using h)
/-- The world holds the points in the slice v, made since w. -/
def OwnPts (t : TypeId) (w wr : World) (v : Value) (L : List PT) : Prop := wr.ownsRow w.heap.size t 2 v L.length (L.flatMap cells2) ∧ Below w.heap.size w wr
theorem OwnPts.nil (t : TypeId) (w : World) : OwnPts t w w (.slice none 0 0) [] := ⟨World.ownsRow_nil _ _ _ _, Below.refl _ _⟩
theorem OwnPts.below {t : TypeId} {w wr w2 : World} {v : Value} {L : List PT} (h : OwnPts t w wr v L) (hb : Below wr.heap.size wr w2) : OwnPts t w w2 v L := ⟨own_below h.1 hb, h.2.trans (hb.mono h.2.size)⟩
theorem OwnPts.push {t : TypeId} {w w3 : World} {v : Value} {L : List PT} {d : PT} (h : w3.ownsRow w.heap.size t 2 v (L.length + 1) (L.flatMap cells2 ++ cells2 d)) (hb : Below w.heap.size w w3) : OwnPts t w w3 v (L ++ [d]) := by
  refine ⟨?_, hb⟩
  simpa [List.flatMap_append] using h
theorem OwnPts.pts {t : TypeId} {w wr : World} {v : Value} {L : List PT} (h : OwnPts t w wr v L) : Pts wr v L := by
  rcases h.1.2 with ⟨rfl, h0⟩ | ⟨g, cap, cur, rfl, hg, hh, h1, h2, h3, h4⟩
  · refine ⟨none, 0, 0, 0, by rw [h0], fun hp => by omega, by omega, by omega, fun i p hp => ?_⟩
    have := (List.getElem?_eq_some_iff.1 hp).1
    omega
  · refine ⟨_, g, 0, cap, rfl, fun _ => rfl, h1, h2, fun i p hp => ?_⟩
    have hi := (List.getElem?_eq_some_iff.1 hp).1
    obtain ⟨a, b⟩ := cells2_at L i p hp
    have e1 := World.ownsRow.cellAt h.1 (i * 2) (by omega)
    have e2 := World.ownsRow.cellAt h.1 (i * 2 + 1) (by omega)
    rw [Nat.zero_add, e1, e2]
    exact ⟨a, b⟩
def zeroP : Value := .agg #[.int .i64 0, .int .i64 0]

set_option maxHeartbeats 4000000 in
theorem of_any (v : Value) (ps : List PT) (w : World) (h : Pts w v ps) (hl : ps.length ≤ 200) : Calls Try.prog 25 #[v] w fun e w' => ∃ u, e = .returned u ∧ Pts w' u ps ∧ Below w.heap.size w w' := by
  obtain ⟨i0, hi, hz0, hz1, hz2⟩ := info_parts (P := Try.prog) (e := 72) (z := zeroP) (size := 2) (bytes := 16) (by kernel_rfl)
  obtain ⟨pa, b, o, cap, rfl, h1, h2, h3, h4⟩ := h
  go_enter Try.func25, Try.ntmps25
  go_wp2_with fail
  go_loopw [3, 8] (fun u x wr => ∃ i : Nat, i ≤ ps.length ∧ x = .int .i64 i ∧ OwnPts 72 w wr u (ps.take i)) (fun _ x _ => ps.length - (intOf x).toNat)
  case atStart => exact ⟨0, by omega, rfl, OwnPts.nil _ _⟩
  case round =>
    obtain ⟨i, hi', rfl, hH⟩ := hrel
    rcases Nat.lt_or_ge i ps.length with hlt | hge
    · obtain rfl := h1 (by omega)
      have hx := (after hH.2).1
      obtain ⟨p, hp⟩ : ∃ p, ps[i]? = some p := ⟨_, List.getElem?_eq_getElem hlt⟩
      obtain ⟨c0, c1⟩ := h4 i p hp
      replace c0 := (hx _ _ (by simp [c0])).trans c0
      replace c1 := (hx _ _ (by simp [c1])).trans c1
      have hs := hH.2.size
      have hlen : (ps.take i).length ≤ 200 := by rw [List.length_take]; omega
      have hn : ps.length - (i + 1) < ps.length - i := by omega
      have hT : ps.take (i + 1) = ps.take i ++ [p] := by rw [List.take_add_one, hp]; rfl
      have hTT := Lib.hid hT
      clear hp hT hx
      generalize ps.take i = P at *
      go_wp2_with (at_builtin; refine wpList_append_own _ rfl _ _ 38 rfl w.heap.size 72 i0 zeroP 2 16 Try.underlying38 hi hz0 hz1 hz2 rfl (by decide) _ _ _ rfl ((hH.1.alloc _).alloc _) ⟨wr.heap.size + 1, 0, none⟩ 1 1 (cells2 p) rfl rfl ?_ (fun x hx => by simp [cells2] at hx; rcases hx with rfl | rfl <;> rfl) (by unfold maxLen; omega) (by omega) (by simp; omega) ?_; rotate_left; intro v' w3 hown' hgrow3 hnil3)
      · refine ⟨⟨i + 1, hlt, by simp, ?_⟩, by simpa [intOf] using hn⟩
        rw [hTT.out]
        exact OwnPts.push hown' (((hH.2.alloc hs _).alloc (by simp; omega) _).grown hgrow3 (by simp; omega) (fun q hq => (hH.1.lt q hq).1))
      · exact fun _ _ h => h
    · obtain rfl : i = ps.length := by omega
      simp only [List.take_length] at hH
      go_wp2_with fail
      go_ret
      exact ⟨_, rfl, hH.pts, hH.2⟩
end Go.Proofs.Ytcppgigndpepnaa
