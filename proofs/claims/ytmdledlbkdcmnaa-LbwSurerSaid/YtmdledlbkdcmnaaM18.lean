/-
  Contracts and laws, merged: Mirror LbwWalks2.
  Conditions: none.
-/
import Derived.Test.YtmdledlbkdcmnaaM1
import Derived.Test.YtmdledlbkdcmnaaM2
import Derived.Deep.RegionWith
import Derived.Test.YtmdledlbkdcmnaaM16
import Derived.Test.YtmdledlbkdcmnaaM3
set_option linter.unusedSimpArgs false
set_option linter.unusedVariables false
/-
  Contract of Mirror, and the walk of the statement on mirror images.
  Conditions: none.
-/
namespace Go.Proofs.Ytmdledlbkdcmnaa
open Go.RowKit
theorem own_form {w : World} {base size n : Nat} {e : TypeId} {v : Value} {xs : List Value} (h : w.ownsRow base e size v n xs) (hn : 0 < n) : ∃ g cap, v = .slice (some ⟨g, 0, none⟩) n cap ∧ base ≤ g ∧ g < w.heap.size := by
  rcases h.2 with ⟨_, h0⟩ | ⟨g, cap, cur, rfl, h1, h2, _⟩
  · omega
  · exact ⟨g, cap, rfl, h1, (Array.getElem?_eq_some_iff.1 h2).1⟩
theorem take_next {α β : Type} {l : List α} {i : Nat} {s : α} (f : α → β) (h : l[i]? = some s) : (l.take (i + 1)).map f = (l.take i).map f ++ [f s] := by
  rw [List.take_add_one, h]; simp
/-- The first i observations exchanged. -/
def mirTo (l : List SN) (i : Nat) : List SN := (l.take i).map mirW ++ l.drop i
theorem mirTo_zero (l : List SN) : mirTo l 0 = l := by simp [mirTo]
theorem mirTo_all {l : List SN} {i : Nat} (h : l.length ≤ i) : mirTo l i = l.map mirW := by
  unfold mirTo; rw [List.take_of_length_le h, List.drop_eq_nil_of_le h, List.append_nil]
theorem mirTo_len {l : List SN} {i : Nat} (h : i ≤ l.length) : (mirTo l i).length = l.length := by
  unfold mirTo; rw [List.length_append, List.length_map, List.length_take, List.length_drop]; omega
theorem cells5_set {l : List SN} {i : Nat} {s : SN} (h : l[i]? = some s) : ((mirTo l i).flatMap cells5).set (i * 5 + 2) (.int .i64 (wrap64 (-s.2.2.1))) = (mirTo l (i + 1)).flatMap cells5 := by
  have hi := (List.getElem?_eq_some_iff.1 h).1
  have e1 : mirTo l i = (l.take i).map mirW ++ (s :: l.drop (i + 1)) := by unfold mirTo; rw [drop_at h]
  have e2 : mirTo l (i + 1) = (l.take i).map mirW ++ (mirW s :: l.drop (i + 1)) := by unfold mirTo; rw [take_next mirW h]; simp
  have hlen : (((l.take i).map mirW).flatMap cells5).length = i * 5 := by rw [cells5_len, List.length_map, List.length_take]; congr 1; omega
  rw [e1, e2, List.flatMap_append, List.flatMap_append, List.set_append_right _ _ (by omega), hlen]
  congr 1
  rw [show i * 5 + 2 - i * 5 = 2 by omega]
  rfl
set_option maxRecDepth 100000 in
set_option maxHeartbeats 4000000 in
theorem mirror_any (v : Value) (l : List SN) (w : World) (h : Seens w v l) (hl2 : l.length ≤ 200) : Calls Try.prog 51 #[v] w fun e w' => ∃ u, e = .returned u ∧ Seens w' u (l.map mirW) ∧ Below w.heap.size w w' := by
  obtain ⟨i0, hi0, hz0, hz1, hz2⟩ := info_parts (P := Try.prog) (e := 38) (z := zeroS) (size := 5) (bytes := 40) (by kernel_rfl)
  have h0 := h
  obtain ⟨pa, b, o, cap, rfl, h1, h2, h3, h4⟩ := h
  have hcap : cap ≤ 9223372036854775807 := by unfold maxLen at h3; omega
  rcases Nat.eq_zero_or_pos l.length with hz | hpos
  · obtain rfl : l = [] := List.eq_nil_of_length_eq_zero hz
    clear hz h4 h1 h2 hl2 h0
    cases pa with
    | none =>
      go_enter Try.func51, Try.ntmps51
      go_wp2_with fail
      refine wp_loop_rounds 1 ?_
      rw [rounds_succ]
      go_wp2_with fail
      go_ret
      exact ⟨_, rfl, seens_empty, (by repeat (first | with_reducible exact Below.refl _ _ | with_reducible assumption | with_reducible refine Below.drew ?_ | with_reducible refine Below.setCell ?_ (by first | omega | (simp; omega) | simp) _ | with_reducible refine Below.alloc ?_ (by first | omega | (simp; omega) | simp) _ | with_reducible refine Below.trans ?_ (Below.mono (by with_reducible assumption) (by first | omega | (simp; omega) | simp))))⟩
    | some a =>
      go_enter Try.func51, Try.ntmps51
      go_wp2_with fail
      refine wp_loop_rounds 1 ?_
      rw [rounds_succ]
      go_wp2_with fail
      go_ret
      exact ⟨_, rfl, seens_empty, (by repeat (first | with_reducible exact Below.refl _ _ | with_reducible assumption | with_reducible refine Below.drew ?_ | with_reducible refine Below.setCell ?_ (by first | omega | (simp; omega) | simp) _ | with_reducible refine Below.alloc ?_ (by first | omega | (simp; omega) | simp) _ | with_reducible refine Below.trans ?_ (Below.mono (by with_reducible assumption) (by first | omega | (simp; omega) | simp))))⟩
  · obtain rfl := h1 hpos
    have hN := Lib.hid (seens_cells l w b o (fun i s hs => h4 i s hs))
    clear h1
    go_enter Try.func51, Try.ntmps51
    go_wp2_with (at_builtin; refine wpList_append_own _ rfl _ _ 22 rfl w.heap.size 38 i0 zeroS 5 40 Try.underlying22 hi0 hz0 hz1 hz2 rfl (by decide) (.slice none 0 0) 0 [] rfl (World.ownsRow_nil _ _ _ _) ⟨b, o, none⟩ l.length cap (l.flatMap cells5) (by rfl) (by rw [cells5_len]) (by intro j u hu; rw [Addr.add_lit]; exact hN.out j u hu) (cells5_one _) (by unfold maxLen; omega) (by omega) (Nat.le_refl _) ?_; intro c w3 hc3 hg3 hnil3; obtain ⟨g, cc, rfl, hgl, hgs⟩ := own_form hc3 (by omega); rw [Nat.zero_add] at hc3 ⊢; have hB3 : Below w.heap.size w w3 := (Below.refl _ _).grown hg3 (Nat.le_refl _) (fun q hq => by simp [Value.ownBlock] at hq))
    go_loopw [9] (fun x wr => ∃ i : Nat, i ≤ l.length ∧ x = .int .i64 i ∧ Below w.heap.size w wr ∧ wr.ownsRow w.heap.size 38 5 (.slice (some ⟨g, 0, none⟩) l.length cc) l.length ((mirTo l i).flatMap cells5)) (fun x _ => l.length - (intOf x).toNat)
    case atStart => exact ⟨0, by omega, rfl, hB3, by rw [mirTo_zero]; exact hc3⟩
    case round =>
      obtain ⟨i, hi, rfl, hb0, hO⟩ := hrel
      rcases Nat.lt_or_ge i l.length with hlt | hge
      · obtain ⟨s, hs⟩ : ∃ s, l[i]? = some s := ⟨_, List.getElem?_eq_getElem hlt⟩
        have hsi : (mirTo l i)[i]? = some s := by
          unfold mirTo
          rw [List.getElem?_append_right (by simp; omega)]
          simp only [List.length_map, List.length_take]
          rw [show i - min i l.length = 0 by omega, drop_at hs]
          rfl
        obtain ⟨_, _, k2, _, _⟩ := cells5_at _ _ _ hsi
        have c2 := (World.ownsRow.cellAt hO (i * 5 + 2) (by omega)).trans k2
        have f2 := World.ownsRow.frozenAt hO (i * 5 + 2)
        have hst := (World.ownsRow.stored hO (i * 5 + 2) (.int .i64 (wrap64 (-s.2.2.1)))).1
        rw [cells5_set hs] at hst
        have hS := Lib.hid hst
        have hn : l.length - (i + 1) < l.length - i := by omega
        have hgr : g < wr.heap.size := by have h1 := hg3.size; have h2 := hb0.size; exact (hO.lt g rfl).2
        clear hs hsi k2 hst h4
        go_wp2_with fail
        exact ⟨⟨i + 1, hlt, by simp, hb0.setCell hgl _, hS.out⟩, by simpa [intOf] using hn⟩
      · have hdi : ¬i < l.length := by omega
        rw [mirTo_all hge] at hO
        have hO' : wr.ownsRow w.heap.size 38 5 (.slice (some ⟨g, 0, none⟩) l.length cc) (l.map mirW).length ((l.map mirW).flatMap cells5) := by rw [List.length_map]; exact hO
        go_wp2_with fail
        go_ret
        exact ⟨_, rfl, seens_own hO', hb0⟩
end Go.Proofs.Ytmdledlbkdcmnaa

/-
  The walk of the statement on mirror images of decisions.
  Conditions: none.
-/
namespace Go.Proofs.Ytmdledlbkdcmnaa
open Go.RowKit
theorem Seens.otherB {w : World} {u : Value} {S : List SN} {k o : Nat} {p : Option Addr} {m c : Nat} {x1 x2 x3 x4 : Bool} {v : Value} {t : TypeId} {fr : Nat × Nat} (h : Seens w u S) (hk : w.heap[k]? = some (.cells #[.slice p m c, .bool x1, .bool x2, .bool x3, .bool x4] t fr)) : Seens (w.setCell ⟨k, o, none⟩ v) u S := by
  obtain ⟨pa, b, q, cap, rfl, h1, h2, h3, h4⟩ := h
  refine ⟨pa, b, q, cap, rfl, h1, h2, h3, fun i s hs => ?_⟩
  obtain ⟨c0, c1, c2, c3, c4⟩ := h4 i s hs
  have hb : b ≠ k := by
    rintro rfl
    rcases Nat.eq_zero_or_pos (q + i * 5) with e | e
    · rw [e] at c4
      simp [World.cell?, hk] at c4
    · obtain ⟨j, hj⟩ : ∃ j, q + i * 5 + 4 = j + 5 := ⟨q + i * 5 - 1, by omega⟩
      rw [hj] at c4
      simp [World.cell?, hk] at c4
  have e : ∀ j, (w.setCell ⟨k, o, none⟩ v).cell? ⟨b, j, none⟩ = w.cell? ⟨b, j, none⟩ := fun j => by
    unfold World.cell?
    rw [Below.heap_setCell w _ v b hb]
  exact ⟨(e _).trans c0, (e _).trans c1, (e _).trans c2, (e _).trans c3, (e _).trans c4⟩
set_option maxRecDepth 100000 in
set_option maxHeartbeats 4000000 in
theorem lbwMirrors_few (v : Value) (l : List SN) (left shot bat void : Bool) (w : World) (h : Seens w v l) (hfb : fewB l = false) : Calls Try.prog 16 #[.agg #[v, .bool left, .bool shot, .bool bat, .bool void]] w fun e w' => e = .returned (.bool true) ∧ Below w.heap.size w w' := by
  have hf := Lib.hid (fun w' (h : Seens w' v l) => by have := lfew_any v l w' h; rwa [hfb] at this)
  have hcp := h
  obtain ⟨pa, b, o, cap, rfl, g1, g2, g3, g4⟩ := hcp
  clear g4 g1
  go_enter Try.func16, Try.ntmps16
  go_wp2_with (first
    | (go_at_call 46; refine (awake35_any _).mono ?_; rintro e w1 ⟨rfl, hb1⟩; have hB := heap_old hb1 (heap_new w (.cells #[.slice pa l.length cap, .bool left, .bool shot, .bool bat, .bool void] 43) rfl); have hK := Below.next1 (Below.refl w.heap.size w) (Nat.le_refl _) hb1; clear hb1; (have b0 := cell_heap (o := 0) hB rfl; have b1 := cell_heap (o := 1) hB rfl; have b2 := cell_heap (o := 2) hB rfl; have b3 := cell_heap (o := 3) hB rfl; have b4 := cell_heap (o := 4) hB rfl))
    | (go_at_call 47; refine (hf.out _ (h.below hK)).mono ?_; rintro e w2 ⟨rfl, hb2⟩; replace hB := heap_old hb2 hB; replace hK := Below.next hK (Nat.le_refl _) hb2; clear hb2; (clear b0 b1 b2 b3 b4); (have b0 := cell_heap (o := 0) hB rfl; have b1 := cell_heap (o := 1) hB rfl; have b2 := cell_heap (o := 2) hB rfl; have b3 := cell_heap (o := 3) hB rfl; have b4 := cell_heap (o := 4) hB rfl)))
  go_ret
  exact ⟨rfl, hK⟩
set_option maxRecDepth 100000 in
set_option maxHeartbeats 8000000 in
theorem lbwMirrors_all (v : Value) (l : List SN) (left shot bat void : Bool) (w : World) (h : Seens w v l) (hy : ∀ s ∈ l, y64 s) (hfb : fewB l = true) : Calls Try.prog 16 #[.agg #[v, .bool left, .bool shot, .bool bat, .bool void]] w fun e w' => e = .returned (.bool true) ∧ Below w.heap.size w w' := by
  have hf := Lib.hid (fun w' (h : Seens w' v l) => by have := lfew_any v l w' h; rwa [hfb] at this)
  have hl2 : l.length ≤ 200 := by unfold fewB at hfb; simp only [Bool.or_eq_true, Bool.and_eq_true, decide_eq_true_eq] at hfb; omega
  have h1 := Lib.hid (fun w' (h : Seens w' v l) => decide_any v l left shot bat void w' h)
  have h2 := Lib.hid (fun w' u (h : Seens w' u (l.map mirW)) => by have := decide_any u (l.map mirW) (!left) shot bat void w' h; rwa [decV_mirW hy] at this)
  have h3 := Lib.hid (fun w' (h : Seens w' v l) => mirror_any v l w' h hl2)
  obtain ⟨x0, x1, x2, x3, e⟩ := decV_form l left shot bat void
  rw [e] at h1 h2
  clear e hfb hy
  generalize behE l = E at *
  have hcp := h
  obtain ⟨pa, b, o, cap, rfl, g1, g2, g3, g4⟩ := hcp
  clear g4 g1
  go_enter Try.func16, Try.ntmps16
  go_wp2_with (first
    | (go_at_call 46; refine (awake35_any _).mono ?_; rintro e w1 ⟨rfl, hb1⟩; have hB := heap_old hb1 (heap_new w (.cells #[.slice pa l.length cap, .bool left, .bool shot, .bool bat, .bool void] 43) rfl); have hK := Below.next1 (Below.refl w.heap.size w) (Nat.le_refl _) hb1; clear hb1; (have b0 := cell_heap (o := 0) hB rfl; have b1 := cell_heap (o := 1) hB rfl; have b2 := cell_heap (o := 2) hB rfl; have b3 := cell_heap (o := 3) hB rfl; have b4 := cell_heap (o := 4) hB rfl))
    | (go_at_call 47; refine (hf.out _ (h.below hK)).mono ?_; rintro e w2 ⟨rfl, hb2⟩; replace hB := heap_old hb2 hB; replace hK := Below.next hK (Nat.le_refl _) hb2; clear hb2; (clear b0 b1 b2 b3 b4); (have b0 := cell_heap (o := 0) hB rfl; have b1 := cell_heap (o := 1) hB rfl; have b2 := cell_heap (o := 2) hB rfl; have b3 := cell_heap (o := 3) hB rfl; have b4 := cell_heap (o := 4) hB rfl))
    | (go_at_call 23; refine (h1.out _ (h.below hK)).mono ?_; rintro e w3 ⟨rfl, hb3⟩; have hV := heap_new w3 (.cells #[.int .u8 x0, .int .u8 x1, .int .u8 x2, .int .u8 x3] 47) rfl; replace hB := heap_alloc (X := (.cells #[.int .u8 x0, .int .u8 x1, .int .u8 x2, .int .u8 x3] 47)) (heap_old hb3 hB); replace hK := (Below.next hK (Nat.le_refl _) hb3); replace hK := (hK.alloc hK.size (.cells #[.int .u8 x0, .int .u8 x1, .int .u8 x2, .int .u8 x3] 47)); (clear b0 b1 b2 b3 b4); (have b0 := cell_heap (o := 0) hB rfl; have b1 := cell_heap (o := 1) hB rfl; have b2 := cell_heap (o := 2) hB rfl; have b3 := cell_heap (o := 3) hB rfl; have b4 := cell_heap (o := 4) hB rfl)))
  have hKs := hK.size
  replace hV := heap_alloc (X := (.cells #[.slice pa l.length cap, .bool left, .bool shot, .bool bat, .bool void] 43)) hV
  replace hB := heap_alloc (X := (.cells #[.slice pa l.length cap, .bool left, .bool shot, .bool bat, .bool void] 43)) hB
  have hC := heap_new (w3.alloc (.cells #[.int .u8 x0, .int .u8 x1, .int .u8 x2, .int .u8 x3] 47)) (.cells #[.slice pa l.length cap, .bool left, .bool shot, .bool bat, .bool void] 43) (b := w3.heap.size + 1) (by simp)
  replace hK := hK.alloc hK.size (.cells #[.slice pa l.length cap, .bool left, .bool shot, .bool bat, .bool void] 43)
  generalize (World.alloc (World.alloc _ _) _) = w5 at *
  (clear b0 b1 b2 b3 b4)
  (have b0 := cell_heap (o := 0) hB rfl; have b1 := cell_heap (o := 1) hB rfl; have b2 := cell_heap (o := 2) hB rfl; have b3 := cell_heap (o := 3) hB rfl; have b4 := cell_heap (o := 4) hB rfl)
  have hltC := (Array.getElem?_eq_some_iff.1 hC).1
  have hltB := (Array.getElem?_eq_some_iff.1 hB).1
  have hS5 := h.below hK
  have c0 := cell_heap (o := 0) hC rfl
  have c1 := cell_heap (o := 1) hC rfl
  have f0 := frozen_heap (o := 0) hC
  have f1 := frozen_heap (o := 1) hC
  go_region_with (go_at_call 51; refine (h3.out _ (hS5.below (by repeat (first | with_reducible exact Below.refl _ _ | with_reducible assumption | with_reducible refine Below.drew ?_ | with_reducible refine Below.setCell ?_ (by first | omega | (simp; omega) | simp) _ | with_reducible refine Below.alloc ?_ (by first | omega | (simp; omega) | simp) _ | with_reducible refine Below.trans ?_ (Below.mono (by with_reducible assumption) (by first | omega | (simp; omega) | simp)))))).mono ?_; rintro e wm ⟨u, rfl, hu, hbm⟩; have hu2 := hu; obtain ⟨pu, bu, ou, cu, rfl, _, _, _, _⟩ := hu2; rw [List.length_map] at hu ⊢; have hBm : wm.heap[w.heap.size]? = some (.cells #[.slice pa l.length cap, .bool left, .bool shot, .bool bat, .bool void] 43) := (by first | exact heap_old hbm hB | exact heap_old hbm (heap_drew hB)); have hCm : wm.heap[w3.heap.size + 1]? = some (.cells #[.slice pa l.length cap, .bool left, .bool shot, .bool bat, .bool void] 43) := (by first | exact heap_old hbm hC | exact heap_old hbm (heap_drew hC)); have hVm : wm.heap[w3.heap.size]? = some (.cells #[.int .u8 x0, .int .u8 x1, .int .u8 x2, .int .u8 x3] 47) := (by first | exact heap_old hbm hV | exact heap_old hbm (heap_drew hV)); have m1 := cell_heap (o := 1) hBm rfl; have n0 := cell_heap (o := 0) hCm rfl; have n1 := cell_heap (o := 1) hCm rfl; have k0 := frozen_heap (o := 0) hCm; have k1 := frozen_heap (o := 1) hCm)
  all_goals
    have hMk : Below w.heap.size w wm := by first | exact Below.next hK (Nat.le_refl _) hbm | exact Below.next hK.drew (Nat.le_refl _) hbm
    have hwle : w.heap.size ≤ w3.heap.size + 1 := by have := hKs; simp at this; omega
    have hC2 := heap_set (o := 0) (v := .slice pu l.length cu) hCm
    simp only [List.setIfInBounds_toArray, List.set_cons_succ, List.set_cons_zero] at hC2
    have hC3 := heap_set (o := 1) (v := .bool (!left)) hC2
    simp only [List.setIfInBounds_toArray, List.set_cons_succ, List.set_cons_zero] at hC3
    have nV : w3.heap.size ≠ w3.heap.size + 1 := by omega
    have hV3 := heap_set_other (g := w3.heap.size + 1) (o := 1) (v := .bool (!left)) (heap_set_other (g := w3.heap.size + 1) (o := 0) (v := .slice pu l.length cu) hVm nV) nV
    have hu3 := (hu.otherB (o := 0) (v := .slice pu l.length cu) hCm).otherB (o := 1) (v := .bool (!left)) hC2
    have hK3 := Below.setCell (Below.setCell hMk hwle (.slice pu l.length cu) (p := ⟨w3.heap.size + 1, 0, none⟩)) hwle (.bool (!left)) (p := ⟨w3.heap.size + 1, 1, none⟩)
    clear m1 n0 n1 k0 k1 hBm hCm hVm hC2 b0 b1 b2 b3 b4 c0 c1 f0 f1
    generalize World.setCell (World.setCell _ _ _) _ _ = w6 at *
    have c0 := cell_heap (o := 0) hC3 rfl
    have c1 := cell_heap (o := 1) hC3 rfl
    have c2 := cell_heap (o := 2) hC3 rfl
    have c3 := cell_heap (o := 3) hC3 rfl
    have c4 := cell_heap (o := 4) hC3 rfl
    go_wp2_with (go_at_call 23; refine (h2.out _ _ hu3).mono ?_; rintro e w7 ⟨rfl, hb7⟩; have hU := heap_new w7 (.cells #[.int .u8 x0, .int .u8 x1, .int .u8 x2, .int .u8 x3] 47) rfl; replace hV3 := heap_alloc (X := (.cells #[.int .u8 x0, .int .u8 x1, .int .u8 x2, .int .u8 x3] 47)) (heap_old hb7 hV3); replace hK3 := Below.next hK3 (Nat.le_refl _) hb7; replace hK3 := hK3.alloc hK3.size (.cells #[.int .u8 x0, .int .u8 x1, .int .u8 x2, .int .u8 x3] 47); have v0 := cell_heap (o := 0) hV3 rfl; have v1 := cell_heap (o := 1) hV3 rfl; have v2 := cell_heap (o := 2) hV3 rfl; have v3 := cell_heap (o := 3) hV3 rfl)
    go_ret
    exact ⟨rfl, hK3⟩
theorem lbwMirrors_walk (v : Value) (l : List SN) (left shot bat void : Bool) (w : World) (h : Seens w v l) (hy : ∀ s ∈ l, y64 s) : Calls Try.prog 16 #[.agg #[v, .bool left, .bool shot, .bool bat, .bool void]] w fun e w' => e = .returned (.bool true) ∧ Below w.heap.size w w' := by
  cases hfb : fewB l with
  | false => exact lbwMirrors_few v l left shot bat void w h hfb
  | true => exact lbwMirrors_all v l left shot bat void w h hy hfb
end Go.Proofs.Ytmdledlbkdcmnaa
