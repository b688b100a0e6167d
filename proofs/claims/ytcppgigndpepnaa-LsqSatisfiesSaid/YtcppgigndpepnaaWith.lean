/-
  Contract of the reference's with: a matrix with another column.
  Conditions: none.
-/
import Derived.Test.YtcppgigndpepnaaSolve
namespace Go.Proofs.Ytcppgigndpepnaa
open Go.RowKit
/-- An empty slice that is not nil. -/
theorem own_empty {w : World} {base g : Nat} {t : TypeId} (hg : base ≤ g) (h : w.heap[g]? = some (.cells #[] t (0, 0))) : w.ownsRow base t 1 (.slice (some ⟨g, 0, none⟩) 0 0) 0 [] :=
  ⟨rfl, .inr ⟨g, 0, #[], rfl, hg, h, Nat.le_refl _, by unfold maxLen; omega, rfl, rfl⟩⟩
set_option maxRecDepth 100000 in
set_option maxHeartbeats 8000000 in
theorem with_any (v vb : Value) (a : Mat) (bs : List Int) (k : Nat) (w : World) (h : MatV w v a) (hv : Row w vb bs) (he : matE a = 0) (hl : bs.length = a.length) (hk : k < a.length) : Calls Try.prog 56 #[v, .int .i64 k, vb] w fun e w' => ∃ u, e = .returned u ∧ MatV w' u (withCol k a bs) ∧ Below w.heap.size w w' := by
  have hm := matE_iff.1 he
  obtain ⟨pa, b, o, cap, rfl, h1, h2, h3, h4⟩ := h
  obtain ⟨pb, bb, bo, bc, rfl, g1, g2, g3, g4⟩ := hv
  obtain ⟨i0, hi0, hz0, hz1, hz2⟩ := info_parts (P := Try.prog) (e := 2) (z := .int .i64 0) (size := 1) (bytes := 8) (by kernel_rfl)
  obtain ⟨i1, hi1, hy0, hy1, hy2⟩ := info_parts (P := Try.prog) (e := 23) (z := .slice none 0 0) (size := 1) (bytes := 24) (by kernel_rfl)
  have hal : 1 ≤ a.length ∧ a.length ≤ 3 := by omega
  obtain ⟨hal1, hal2⟩ := hal
  have hM := Lib.hid hm
  clear hm he
  go_enter Try.func56, Try.ntmps56
  go_wp2_with fail
  go_loopw [7, 13] (fun m x wr => ∃ i : Nat, i ≤ a.length ∧ x = .int .i64 i ∧ Below w.heap.size w wr ∧ MatOwn w.heap.size wr m ((withCol k a bs).take i)) (fun _ x _ => a.length - (intOf x).toNat)
  case atStart => exact ⟨0, by omega, rfl, (by repeat (first | with_reducible exact Below.refl _ _ | with_reducible assumption | with_reducible refine Below.drew ?_ | with_reducible refine Below.setCell ?_ (by first | omega | (simp; omega) | simp) _ | with_reducible refine Below.alloc ?_ (by first | omega | (simp; omega) | simp) _ | with_reducible refine Below.trans ?_ (Below.mono (by with_reducible assumption) (by first | omega | (simp; omega) | simp)))), by simpa using MatOwn.nil _ _⟩
  case round =>
    obtain ⟨i, hi2, rfl, hb3, hM3⟩ := hrel
    rcases Nat.lt_or_ge i a.length with hlt3 | hge3
    · obtain rfl := h1 (by omega)
      obtain rfl := g1 (by omega)
      have hx := (after hb3).1
      obtain ⟨r, hr⟩ : ∃ r, a[i]? = some r := ⟨_, List.getElem?_eq_getElem hlt3⟩
      obtain ⟨u, c0, hu⟩ := h4 i r hr
      replace c0 := (hx _ _ (by simp [c0])).trans c0
      obtain ⟨qa, qb, qo, qc, rfl, q1, q2, q3, q4⟩ := hu
      have hrl : r.length = a.length := hM.out.2.1 r (List.mem_of_getElem? hr)
      obtain rfl := q1 (by omega)
      obtain ⟨y, hy⟩ : ∃ y, bs[i]? = some y := ⟨_, List.getElem?_eq_getElem (by omega)⟩
      have d0 := g4 i y hy
      replace d0 := (hx _ _ (by simp [d0])).trans d0
      have hq4 := Lib.hid (row_news q4 (hb3.alloc hb3.size (.cells #[] 2)))
      obtain ⟨z, hz⟩ : ∃ z, r[k]? = some z := ⟨_, List.getElem?_eq_getElem (by omega)⟩
      have hR := Lib.hid hr
      have hY := Lib.hid hy
      have hZ := Lib.hid hz
      have hn3 : a.length - (i + 1) < a.length - i := by omega
      have hs3 := hb3.size
      have hemp := own_empty (base := wr.heap.size) (Nat.le_refl _) (heap_new wr (.cells #[] 2) rfl)
      clear hr hy hz hx q4
      have hlen : ((withCol k a bs).take i).length = i := by rw [List.length_take, withCol_len]; omega
      go_wp2_with (first
        | (at_builtin; refine wpList_append_own _ rfl _ _ 23 rfl wr.heap.size 2 i0 (.int .i64 0) 1 8 Try.underlying23 hi0 hz0 hz1 hz2 rfl (by decide) (.slice (some ⟨wr.heap.size, 0, none⟩) 0 0) 0 [] rfl hemp ⟨qb, qo, none⟩ a.length qc (ints r) (by rfl) (by simp [ints]; omega) hq4.out (ints_one r) (by unfold maxLen; omega) (by omega) (by simp) ?_; intro c w3 hc hg3 hnil3; obtain ⟨g, cc, rfl, hgl, hgs⟩ := own_form hc (by omega); replace hc : w3.ownsRow wr.heap.size 2 1 (.slice (some ⟨g, 0, none⟩) (0 + a.length) cc) (0 + a.length) (ints r) := hc; rw [Nat.zero_add] at hc; have hB3 : Below wr.heap.size wr w3 := ((Below.refl _ _).alloc (Nat.le_refl _) _).grown hg3 (by simp) (fun q hq => (hemp.lt q hq).1); have d1 := ((after hB3).1 _ _ (by simp [d0])).trans d0; have z0 := (World.ownsRow.cellAt hc k (by omega)).trans (ints_at hZ.out); have z1 := World.ownsRow.frozenAt hc k; have hst := (World.ownsRow.stored hc k (.int .i64 y)).1; have hB4 : Below wr.heap.size wr (w3.setCell ⟨g, k, none⟩ (.int .i64 y)) := hB3.setCell hgl _; have hM4 := hM3.below hB4; have hs4 := hB3.size; obtain ⟨us, hus, hrows⟩ := hM4; rw [hlen] at hus; rw [Nat.zero_add])
        | (at_builtin; refine wpList_append_own _ rfl _ _ 22 rfl w.heap.size 23 i1 (.slice none 0 0) 1 24 Try.underlying22 hi1 hy0 hy1 hy2 rfl (by decide) _ _ _ rfl (hus.alloc _) ⟨w3.heap.size, 0, none⟩ 1 1 [.slice (some ⟨g, 0, none⟩) a.length cc] rfl rfl ?_ (fun x hx => by simp at hx; subst hx; rfl) (by unfold maxLen; omega) (by omega) (by simp; omega) ?_; rotate_left; intro m' w5 hown5 hg5 hnil5))
      have hb4 : Below w.heap.size w (w3.setCell ⟨g, k, none⟩ (.int .i64 y)) := Below.next hb3 (Nat.le_refl _) hB4
      have hT : (withCol k a bs).take (i + 1) = (withCol k a bs).take i ++ [r.set k y] := by rw [List.take_add_one, withCol_at k a bs i r y hR.out hY.out]; rfl
      have hsz : w.heap.size ≤ (w3.setCell ⟨g, k, none⟩ (.int .i64 y)).heap.size := hb4.size
      have hrs : (r.set k y).length = a.length := by rw [List.length_set]; exact hrl
      refine ⟨⟨_, _, _, _, _, ⟨i + 1, hlt3, ?_, ?_, ?_⟩, rfl, rfl, rfl, rfl, rfl⟩, by simpa [intOf] using hn3⟩
      · simp
      · exact (hb4.alloc hsz _).grown hg5 (by simp; omega) (fun q hq => (hus.lt q hq).1)
      · rw [hT]
        refine MatOwn.push (by rw [hlen]; exact hus.alloc _) (fun j q hj => let ⟨u, x1, x2⟩ := hrows j q hj; ⟨u, x1, x2.alloc _⟩) ?_ (by rw [hlen]; exact hown5) hg5
        rw [hrs, ints, List.map_set]
        exact (own_mono hst hs3).alloc _
    · have hdi3 : ¬i < a.length := by omega
      rw [List.take_of_length_le (by rw [withCol_len]; omega)] at hM3
      go_wp2_with fail
      go_ret
      exact ⟨_, rfl, hM3.mat, hb3⟩
end Go.Proofs.Ytcppgigndpepnaa
