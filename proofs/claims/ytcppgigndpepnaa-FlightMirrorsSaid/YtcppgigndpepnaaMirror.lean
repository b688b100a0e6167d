/-
  Contract of Mirror, and the walk of the statement on mirror images.
  Conditions: none.
-/
import Derived.Test.YtcppgigndpepnaaMirPlain
import Derived.Test.YtcppgigndpepnaaFlightLaws
import Derived.Deep.RegionWith
namespace Go.Proofs.Ytcppgigndpepnaa
open Go.RowKit
/-- The first i observations exchanged. -/
def mirTo (l : List SN) (i : Nat) : List SN := (l.take i).map mirW ++ l.drop i
theorem mirTo_zero (l : List SN) : mirTo l 0 = l := by simp [mirTo]
theorem mirTo_all {l : List SN} {i : Nat} (h : l.length ≤ i) : mirTo l i = l.map mirW := by
  unfold mirTo; rw [List.take_of_length_le h, List.drop_eq_nil_of_le h, List.append_nil]
theorem mirTo_len {l : List SN} {i : Nat} (h : i ≤ l.length) : (mirTo l i).length = l.length := by
  unfold mirTo; rw [List.length_append, List.length_map, List.length_take, List.length_drop]; omega
theorem cells5_set {l : List SN} {i : Nat} {s : SN} (h : l[i]? = some s) : ((mirTo l i).flatMap cells5).set (i * 5 + 2) (.int .i64 (wrap64 (-s.2.2.1))) = (mirTo l (i + 1)).flatMap cells5 := by
  have hi := (List.getElem?_eq_some_iff.1 h).1
  have e1 : mirTo l i = (l.take i).map mirW ++ (s :: l.drop (i + 1)) := by unfold mirTo; rw [drop_at h]
  have e2 : mirTo l (i + 1) = (l.take i).map mirW ++ (mirW s :: l.drop (i + 1)) := by unfold mirTo; rw [take_next mirW h]; simp
  have hlen : (((l.take i).map mirW).flatMap cells5).length = i * 5 := by rw [cells5_len, List.length_map, List.length_take]; congr 1; omega
  rw [e1, e2, List.flatMap_append, List.flatMap_append, List.set_append_right _ _ (by omega), hlen]
  congr 1
  rw [show i * 5 + 2 - i * 5 = 2 by omega]
  rfl
set_option maxRecDepth 100000 in
set_option maxHeartbeats 4000000 in
theorem mirror_any (v : Value) (l : List SN) (w : World) (h : Seens w v l) (hl2 : l.length ≤ 200) : Calls Try.prog 36 #[v] w fun e w' => ∃ u, e = .returned u ∧ Seens w' u (l.map mirW) ∧ Below w.heap.size w w' := by
  obtain ⟨i0, hi0, hz0, hz1, hz2⟩ := info_parts (P := Try.prog) (e := 62) (z := zeroS) (size := 5) (bytes := 40) (by kernel_rfl)
  have h0 := h
  obtain ⟨pa, b, o, cap, rfl, h1, h2, h3, h4⟩ := h
  have hcap : cap ≤ 9223372036854775807 := by unfold maxLen at h3; omega
  rcases Nat.eq_zero_or_pos l.length with hz | hpos
  · obtain rfl : l = [] := List.eq_nil_of_length_eq_zero hz
    clear hz h4 h1 h2 hl2 h0
    cases pa with
    | none =>
      go_enter Try.func36, Try.ntmps36
      go_wp2_with fail
      refine wp_loop_rounds 1 ?_
      rw [rounds_succ]
      go_wp2_with fail
      go_ret
      exact ⟨_, rfl, seens_empty, (by repeat (first | with_reducible exact Below.refl _ _ | with_reducible assumption | with_reducible refine Below.drew ?_ | with_reducible refine Below.setCell ?_ (by first | omega | (simp; omega) | simp) _ | with_reducible refine Below.alloc ?_ (by first | omega | (simp; omega) | simp) _ | with_reducible refine Below.trans ?_ (Below.mono (by with_reducible assumption) (by first | omega | (simp; omega) | simp))))⟩
    | some a =>
      go_enter Try.func36, Try.ntmps36
      go_wp2_with fail
      refine wp_loop_rounds 1 ?_
      rw [rounds_succ]
      go_wp2_with fail
      go_ret
      exact ⟨_, rfl, seens_empty, (by repeat (first | with_reducible exact Below.refl _ _ | with_reducible assumption | with_reducible refine Below.drew ?_ | with_reducible refine Below.setCell ?_ (by first | omega | (simp; omega) | simp) _ | with_reducible refine Below.alloc ?_ (by first | omega | (simp; omega) | simp) _ | with_reducible refine Below.trans ?_ (Below.mono (by with_reducible assumption) (by first | omega | (simp; omega) | simp))))⟩
  · obtain rfl := h1 hpos
    have hN := Lib.hid (seens_cells l w b o (fun i s hs => h4 i s hs))
    clear h1
    go_enter Try.func36, Try.ntmps36
    go_wp2_with (at_builtin; refine wpList_append_own _ rfl _ _ 46 rfl w.heap.size 62 i0 zeroS 5 40 Try.underlying46 hi0 hz0 hz1 hz2 rfl (by decide) (.slice none 0 0) 0 [] rfl (World.ownsRow_nil _ _ _ _) ⟨b, o, none⟩ l.length cap (l.flatMap cells5) (by rfl) (by rw [cells5_len]) (by intro j u hu; rw [Addr.add_lit]; exact hN.out j u hu) (cells5_one _) (by unfold maxLen; omega) (by omega) (Nat.le_refl _) ?_; intro c w3 hc3 hg3 hnil3; obtain ⟨g, cc, rfl, hgl, hgs⟩ := own_form hc3 (by omega); rw [Nat.zero_add] at hc3 ⊢; have hB3 : Below w.heap.size w w3 := (Below.refl _ _).grown hg3 (Nat.le_refl _) (fun q hq => by simp [Value.ownBlock] at hq))
    go_loopw [9] (fun x wr => ∃ i : Nat, i ≤ l.length ∧ x = .int .i64 i ∧ Below w.heap.size w wr ∧ wr.ownsRow w.heap.size 62 5 (.slice (some ⟨g, 0, none⟩) l.length cc) l.length ((mirTo l i).flatMap cells5)) (fun x _ => l.length - (intOf x).toNat)
    case atStart => exact ⟨0, by omega, rfl, hB3, by rw [mirTo_zero]; exact hc3⟩
    case round =>
      obtain ⟨i, hi, rfl, hb0, hO⟩ := hrel
      rcases Nat.lt_or_ge i l.length with hlt | hge
      · obtain ⟨s, hs⟩ : ∃ s, l[i]? = some s := ⟨_, List.getElem?_eq_getElem hlt⟩
        have hsi : (mirTo l i)[i]? = some s := by
          unfold mirTo
          rw [List.getElem?_append_right (by simp; omega)]
          simp only [List.length_map, List.length_take]
          rw [show i - min i l.length = 0 by omega, drop_at hs]
          rfl
        obtain ⟨_, _, k2, _, _⟩ := cells5_at _ _ _ hsi
        have c2 := (World.ownsRow.cellAt hO (i * 5 + 2) (by omega)).trans k2
        have f2 := World.ownsRow.frozenAt hO (i * 5 + 2)
        have hst := (World.ownsRow.stored hO (i * 5 + 2) (.int .i64 (wrap64 (-s.2.2.1)))).1
        rw [cells5_set hs] at hst
        have hS := Lib.hid hst
        have hn : l.length - (i + 1) < l.length - i := by omega
        have hgr : g < wr.heap.size := by have h1 := hg3.size; have h2 := hb0.size; exact (hO.lt g rfl).2
        clear hs hsi k2 hst h4
        go_wp2_with fail
        exact ⟨⟨i + 1, hlt, by simp, hb0.setCell hgl _, hS.out⟩, by simpa [intOf] using hn⟩
      · have hdi : ¬i < l.length := by omega
        rw [mirTo_all hge] at hO
        have hO' : wr.ownsRow w.heap.size 62 5 (.slice (some ⟨g, 0, none⟩) l.length cc) (l.map mirW).length ((l.map mirW).flatMap cells5) := by rw [List.length_map]; exact hO
        go_wp2_with fail
        go_ret
        exact ⟨_, rfl, seens_own hO', hb0⟩
set_option maxRecDepth 100000 in
set_option maxHeartbeats 4000000 in
theorem flightMirrors_walk (v : Value) (l : List SN) (w : World) (h : Seens w v l) (hy : ∀ s ∈ l, y64 s) : Calls Try.prog 9 #[v] w fun e w' => e = .returned (.bool true) ∧ Below w.heap.size w w' := by
  obtain ⟨xa, xb, xd, ya, yb, yd, ya', yb', za, zb, zd, er, hx1, hx2, hya, hyb, ⟨ba1, ba2⟩, bb1, bb2⟩ := fit_mir hy
  have h1 := fun v' w' (h : Seens w' v' l) => fit_any v' l w' h
  have h2 := fun v' w' (h : Seens w' v' (l.map mirW)) => fit_any v' (l.map mirW) w' h
  simp only [hx1] at h1
  simp only [hx2] at h2
  have H1 := Lib.hid h1
  have H2 := Lib.hid h2
  clear h1 h2 hx1 hx2
  have h0 := h
  obtain ⟨pa, b, o, cap, rfl, g1, g2, g3, g4⟩ := h
  clear g1 g4
  have hcap : cap ≤ 9223372036854775807 := by unfold maxLen at g3; omega
  rcases Nat.lt_or_ge 200 l.length with hlt | hge
  · go_enter Try.func9, Try.ntmps9
    go_wp2_with (go_at_call 29; refine (awake32_any _).mono ?_; rintro e w' ⟨rfl, hb⟩; (try clear hc hf); (try clear hcM hfM); (try clear hcN hfN); (first | ((first | replace hB := Below.next hB (Nat.le_refl _) hb | replace hB := Below.next1 hB (Nat.le_refl _) hb | replace hB := Below.next2 hB (Nat.le_refl _) hb); (first | replace hM := Below.next hM (Nat.le_refl _) hb | replace hM := Below.next1 hM (Nat.le_refl _) hb | replace hM := Below.next2 hM (Nat.le_refl _) hb); (first | replace hN := Below.next hN (Nat.le_refl _) hb | replace hN := Below.next1 hN (Nat.le_refl _) hb | replace hN := Below.next2 hN (Nat.le_refl _) hb)) | ((first | replace hB := Below.next hB (Nat.le_refl _) hb | replace hB := Below.next1 hB (Nat.le_refl _) hb | replace hB := Below.next2 hB (Nat.le_refl _) hb); (first | replace hM := Below.next hM (Nat.le_refl _) hb | replace hM := Below.next1 hM (Nat.le_refl _) hb | replace hM := Below.next2 hM (Nat.le_refl _) hb); have hN := Below.mid hb) | ((first | replace hB := Below.next hB (Nat.le_refl _) hb | replace hB := Below.next1 hB (Nat.le_refl _) hb | replace hB := Below.next2 hB (Nat.le_refl _) hb); (first | replace hM := Below.next hM (Nat.le_refl _) hb | replace hM := Below.next1 hM (Nat.le_refl _) hb | replace hM := Below.next2 hM (Nat.le_refl _) hb)) | ((first | replace hB := Below.next hB (Nat.le_refl _) hb | replace hB := Below.next1 hB (Nat.le_refl _) hb | replace hB := Below.next2 hB (Nat.le_refl _) hb); have hM := Below.mid hb) | (first | replace hB := Below.next hB (Nat.le_refl _) hb | replace hB := Below.next1 hB (Nat.le_refl _) hb | replace hB := Below.next2 hB (Nat.le_refl _) hb) | have hB := hb); obtain ⟨hc, hf, hz⟩ := after hB; (try (have hq := after hM; obtain ⟨hcM, hfM, hzM⟩ := hq)); (try (have hq := after hN; obtain ⟨hcN, hfN, hzN⟩ := hq)); have hs := hb.size; (try simp at hz); (try simp at hs))
    go_ret
    exact ⟨rfl, (by repeat (first | with_reducible exact Below.refl _ _ | with_reducible assumption | with_reducible refine Below.drew ?_ | with_reducible refine Below.setCell ?_ (by first | omega | (simp; omega) | simp) _ | with_reducible refine Below.alloc ?_ (by first | omega | (simp; omega) | simp) _ | with_reducible refine Below.trans ?_ (Below.mono (by with_reducible assumption) (by first | omega | (simp; omega) | simp))))⟩
  · have hM := Lib.hid (fun w' (h : Seens w' (.slice pa l.length cap) l) => mirror_any _ l w' h hge)
    go_enter Try.func9, Try.ntmps9
    go_wp2_with (first | (go_at_call 29; refine (awake32_any _).mono ?_; rintro e w' ⟨rfl, hb⟩; (try clear hc hf); (try clear hcM hfM); (try clear hcN hfN); (first | ((first | replace hB := Below.next hB (Nat.le_refl _) hb | replace hB := Below.next1 hB (Nat.le_refl _) hb | replace hB := Below.next2 hB (Nat.le_refl _) hb); (first | replace hM := Below.next hM (Nat.le_refl _) hb | replace hM := Below.next1 hM (Nat.le_refl _) hb | replace hM := Below.next2 hM (Nat.le_refl _) hb); (first | replace hN := Below.next hN (Nat.le_refl _) hb | replace hN := Below.next1 hN (Nat.le_refl _) hb | replace hN := Below.next2 hN (Nat.le_refl _) hb)) | ((first | replace hB := Below.next hB (Nat.le_refl _) hb | replace hB := Below.next1 hB (Nat.le_refl _) hb | replace hB := Below.next2 hB (Nat.le_refl _) hb); (first | replace hM := Below.next hM (Nat.le_refl _) hb | replace hM := Below.next1 hM (Nat.le_refl _) hb | replace hM := Below.next2 hM (Nat.le_refl _) hb); have hN := Below.mid hb) | ((first | replace hB := Below.next hB (Nat.le_refl _) hb | replace hB := Below.next1 hB (Nat.le_refl _) hb | replace hB := Below.next2 hB (Nat.le_refl _) hb); (first | replace hM := Below.next hM (Nat.le_refl _) hb | replace hM := Below.next1 hM (Nat.le_refl _) hb | replace hM := Below.next2 hM (Nat.le_refl _) hb)) | ((first | replace hB := Below.next hB (Nat.le_refl _) hb | replace hB := Below.next1 hB (Nat.le_refl _) hb | replace hB := Below.next2 hB (Nat.le_refl _) hb); have hM := Below.mid hb) | (first | replace hB := Below.next hB (Nat.le_refl _) hb | replace hB := Below.next1 hB (Nat.le_refl _) hb | replace hB := Below.next2 hB (Nat.le_refl _) hb) | have hB := hb); obtain ⟨hc, hf, hz⟩ := after hB; (try (have hq := after hM; obtain ⟨hcM, hfM, hzM⟩ := hq)); (try (have hq := after hN; obtain ⟨hcN, hfN, hzN⟩ := hq)); have hs := hb.size; (try simp at hz); (try simp at hs)) | (go_at_call_of 32 (pa); refine (H1.out _ _ (h0.below hB)).mono ?_; rintro e w3 ⟨rfl, hb3⟩; have hK := Below.next hB (Nat.le_refl _) hb3; have hs3 := hK.size) | (go_at_call 36; refine (hM.out _ (h0.below (Below.alloc hK hs3 _))).mono ?_; rintro e w4 ⟨u, rfl, hu, hb4⟩; replace hK := Below.next1 hK (Nat.le_refl _) hb4; have hs4 := hb4.size; have hv4 := heap_old hb4 (heap_new _ _ rfl); simp at hs4) | (go_at_call 32; refine (H2.out _ _ hu).mono ?_; rintro e w5 ⟨rfl, hb5⟩; replace hK := Below.next hK (Nat.le_refl _) hb5; replace hv4 := heap_old hb5 hv4; have hs5 := hb5.size; have v0 := cell_heap (o := 0) hv4 rfl; have v1 := cell_heap (o := 1) hv4 rfl; have v2 := cell_heap (o := 2) hv4 rfl; have v3 := cell_heap (o := 3) hv4 rfl; have v4 := cell_heap (o := 4) hv4 rfl; have v5 := cell_heap (o := 5) hv4 rfl; have v6 := cell_heap (o := 6) hv4 rfl; have v7 := cell_heap (o := 7) hv4 rfl; have v8 := cell_heap (o := 8) hv4 rfl))
    go_ret
    exact ⟨rfl, hK.alloc hK.size _⟩
end Go.Proofs.Ytcppgigndpepnaa
