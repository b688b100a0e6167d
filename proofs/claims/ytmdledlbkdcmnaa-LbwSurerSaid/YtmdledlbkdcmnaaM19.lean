/-
  Contracts and laws, merged: LbwWalks3.
  Conditions: none.
-/
import Derived.Test.YtmdledlbkdcmnaaM18
set_option linter.unusedSimpArgs false
set_option linter.unusedVariables false
/-
  The walk of the statement on lesser errors.
  Conditions: none.
-/
namespace Go.Proofs.Ytmdledlbkdcmnaa
open Go.RowKit
theorem own_other {w : World} {base k o : Nat} {e : TypeId} {size : Nat} {v u : Value} {n : Nat} {xs : List Value} (h : w.ownsRow base e size v n xs) (hk : k < base) : (w.setCell ⟨k, o, none⟩ u).ownsRow base e size v n xs := by
  obtain ⟨h1, h2⟩ := h
  refine ⟨h1, ?_⟩
  rcases h2 with h | ⟨g, cap, cur, a, b, c, d⟩
  · exact .inl h
  · exact .inr ⟨g, cap, cur, a, b, (Below.heap_setCell w _ u g (by show g ≠ k; omega)).trans c, d⟩
theorem ne_own {w : World} {base k : Nat} {e : TypeId} {size : Nat} {v : Value} {n : Nat} {xs : List Value} (h : w.ownsRow base e size v n xs) (hk : k < base) : some k ≠ v.ownBlock := fun q => by have := (h.lt k q.symm).1; omega
set_option maxRecDepth 100000 in
set_option maxHeartbeats 4000000 in
theorem lbwSurer_few (v : Value) (l : List SN) (left shot bat void : Bool) (k : Int) (w : World) (h : Seens w v l) (hfb : fewB l = false) : Calls Try.prog 15 #[.agg #[v, .bool left, .bool shot, .bool bat, .bool void], .int .u8 k] w fun e w' => e = .returned (.bool true) ∧ Below w.heap.size w w' := by
  have hf := Lib.hid (fun w' (h : Seens w' v l) => by have := lfew_any v l w' h; rwa [hfb] at this)
  have hcp := h
  obtain ⟨pa, b, o, cap, rfl, g1, g2, g3, g4⟩ := hcp
  clear g4 g1
  go_enter Try.func15, Try.ntmps15
  go_wp2_with (first
    | (go_at_call 46; refine (awake35_any _).mono ?_; rintro e w1 ⟨rfl, hb1⟩; have hB := heap_old hb1 (heap_new w (.cells #[.slice pa l.length cap, .bool left, .bool shot, .bool bat, .bool void] 43) rfl); have hK := Below.next1 (Below.refl w.heap.size w) (Nat.le_refl _) hb1; clear hb1; (have b0 := cell_heap (o := 0) hB rfl; have b1 := cell_heap (o := 1) hB rfl; have b2 := cell_heap (o := 2) hB rfl; have b3 := cell_heap (o := 3) hB rfl; have b4 := cell_heap (o := 4) hB rfl))
    | (go_at_call 47; refine (hf.out _ (h.below hK)).mono ?_; rintro e w2 ⟨rfl, hb2⟩; replace hB := heap_old hb2 hB; replace hK := Below.next hK (Nat.le_refl _) hb2; clear hb2; (clear b0 b1 b2 b3 b4); (have b0 := cell_heap (o := 0) hB rfl; have b1 := cell_heap (o := 1) hB rfl; have b2 := cell_heap (o := 2) hB rfl; have b3 := cell_heap (o := 3) hB rfl; have b4 := cell_heap (o := 4) hB rfl)))
  go_ret
  exact ⟨rfl, hK⟩
set_option maxRecDepth 100000 in
set_option maxHeartbeats 4000000 in
theorem lbwSurer_bad (v : Value) (l : List SN) (left shot bat void : Bool) (k : Int) (w : World) (h : Seens w v l) (hfb : fewB l = true) (hb : behE l ≠ 0) : Calls Try.prog 15 #[.agg #[v, .bool left, .bool shot, .bool bat, .bool void], .int .u8 k] w fun e w' => e = .returned (.bool true) ∧ Below w.heap.size w w' := by
  have hf := Lib.hid (fun w' (h : Seens w' v l) => by have := lfew_any v l w' h; rwa [hfb] at this)
  have hck := Lib.hid (fun w' (h : Seens w' v l) => lcheck_any v l left shot bat void w' h)
  have hn : (behE l != 0) = true := by simpa using hb
  clear hb
  generalize behE l = E at *
  have hcp := h
  obtain ⟨pa, b, o, cap, rfl, g1, g2, g3, g4⟩ := hcp
  clear g4 g1
  go_enter Try.func15, Try.ntmps15
  go_wp2_with (first
    | (go_at_call 46; refine (awake35_any _).mono ?_; rintro e w1 ⟨rfl, hb1⟩; have hB := heap_old hb1 (heap_new w (.cells #[.slice pa l.length cap, .bool left, .bool shot, .bool bat, .bool void] 43) rfl); have hK := Below.next1 (Below.refl w.heap.size w) (Nat.le_refl _) hb1; clear hb1; (have b0 := cell_heap (o := 0) hB rfl; have b1 := cell_heap (o := 1) hB rfl; have b2 := cell_heap (o := 2) hB rfl; have b3 := cell_heap (o := 3) hB rfl; have b4 := cell_heap (o := 4) hB rfl))
    | (go_at_call 47; refine (hf.out _ (h.below hK)).mono ?_; rintro e w2 ⟨rfl, hb2⟩; replace hB := heap_old hb2 hB; replace hK := Below.next hK (Nat.le_refl _) hb2; clear hb2; (clear b0 b1 b2 b3 b4); (have b0 := cell_heap (o := 0) hB rfl; have b1 := cell_heap (o := 1) hB rfl; have b2 := cell_heap (o := 2) hB rfl; have b3 := cell_heap (o := 3) hB rfl; have b4 := cell_heap (o := 4) hB rfl))
    | (go_at_call 49; refine (hck.out _ (h.below hK)).mono ?_; rintro e w3 ⟨rfl, hb3⟩; replace hB := heap_old hb3 hB; replace hK := Below.next hK (Nat.le_refl _) hb3; clear hb3; (clear b0 b1 b2 b3 b4); (have b0 := cell_heap (o := 0) hB rfl; have b1 := cell_heap (o := 1) hB rfl; have b2 := cell_heap (o := 2) hB rfl; have b3 := cell_heap (o := 3) hB rfl; have b4 := cell_heap (o := 4) hB rfl)))
  go_ret
  exact ⟨rfl, hK⟩
set_option maxRecDepth 100000 in
set_option maxHeartbeats 8000000 in
theorem lbwSurer_all (v : Value) (l : List SN) (left shot bat void : Bool) (k : Int) (w : World) (h : Seens w v l) (k0 : 0 ≤ k) (k1 : k ≤ 255) (hfb : fewB l = true) (hb : behE l = 0) : Calls Try.prog 15 #[.agg #[v, .bool left, .bool shot, .bool bat, .bool void], .int .u8 k] w fun e w' => e = .returned (.bool true) ∧ Below w.heap.size w w' := by
  obtain ⟨i0, hi0, hz0, hz1, hz2⟩ := info_parts (P := Try.prog) (e := 38) (z := zeroS) (size := 5) (bytes := 40) (by kernel_rfl)
  have hf := Lib.hid (fun w' (h : Seens w' v l) => by have := lfew_any v l w' h; rwa [hfb] at this)
  have hck := Lib.hid (fun w' (h : Seens w' v l) => by have := lcheck_any v l left shot bat void w' h; rwa [hb] at this)
  have hb2 := behE_less k0 hb
  have h1 := Lib.hid (fun w' (h : Seens w' v l) => by have := decide_any v l left shot bat void w' h; rwa [decV_good hb] at this)
  have h2 := Lib.hid (fun w' u (h : Seens w' u (l.map (lessS k))) => by have := decide_any u (l.map (lessS k)) left shot bat void w' h; rwa [decV_good hb2] at this)
  have hpo : posOk (l.map (lessS k)) = posB (l.map (lessS k)) := by unfold posOk; rw [hb2]; rfl
  have h3 := Lib.hid (fun w' u (h : Seens w' u (l.map (lessS k))) => by have := possible_any u (l.map (lessS k)) w' h; unfold posV at this; rwa [hb2, hpo] at this)
  have hsu := Lib.hid (fun hp => surer k0 hb hp left shot bat void)
  have hch := (behE_len hb).1
  have hl64 := chkE_len hch
  have hok := Lib.hid (chkE_ok hch)
  clear hb hb2 hch hfb hpo
  generalize decCall l left shot bat void = CA at *
  generalize decLeg l left = LE at *
  generalize decLine l left shot = LI at *
  generalize decWkt l left = WK at *
  generalize decCall (l.map (lessS k)) left shot bat void = CB at *
  generalize decLeg (l.map (lessS k)) left = LF at *
  generalize decLine (l.map (lessS k)) left shot = LJ at *
  generalize decWkt (l.map (lessS k)) left = WL at *
  generalize posB (l.map (lessS k)) = PB at *
  have hcp := h
  obtain ⟨pa, b, o, cap, rfl, g1, g2, g3, h4s⟩ := hcp
  have hcap : cap ≤ 9223372036854775807 := by unfold maxLen at g3; omega
  go_enter Try.func15, Try.ntmps15
  go_wp2_with (first
    | (go_at_call 46; refine (awake35_any _).mono ?_; rintro e w1 ⟨rfl, hb1⟩; have hB := heap_old hb1 (heap_new w (.cells #[.slice pa l.length cap, .bool left, .bool shot, .bool bat, .bool void] 43) rfl); have hK := Below.next1 (Below.refl w.heap.size w) (Nat.le_refl _) hb1; clear hb1; (have b0 := cell_heap (o := 0) hB rfl; have b1 := cell_heap (o := 1) hB rfl; have b2 := cell_heap (o := 2) hB rfl; have b3 := cell_heap (o := 3) hB rfl; have b4 := cell_heap (o := 4) hB rfl))
    | (go_at_call 47; refine (hf.out _ (h.below hK)).mono ?_; rintro e w2 ⟨rfl, hb2⟩; replace hB := heap_old hb2 hB; replace hK := Below.next hK (Nat.le_refl _) hb2; clear hb2; (clear b0 b1 b2 b3 b4); (have b0 := cell_heap (o := 0) hB rfl; have b1 := cell_heap (o := 1) hB rfl; have b2 := cell_heap (o := 2) hB rfl; have b3 := cell_heap (o := 3) hB rfl; have b4 := cell_heap (o := 4) hB rfl))
    | (go_at_call 49; refine (hck.out _ (h.below hK)).mono ?_; rintro e w3 ⟨rfl, hb3⟩; replace hB := heap_old hb3 hB; replace hK := Below.next hK (Nat.le_refl _) hb3; clear hb3; (clear b0 b1 b2 b3 b4); (have b0 := cell_heap (o := 0) hB rfl; have b1 := cell_heap (o := 1) hB rfl; have b2 := cell_heap (o := 2) hB rfl; have b3 := cell_heap (o := 3) hB rfl; have b4 := cell_heap (o := 4) hB rfl)))
  have hltB3 : w.heap.size < w3.heap.size := (Array.getElem?_eq_some_iff.1 hB).1
  have hC := heap_new w3 (.cells #[.slice none 0 0, .bool left, .bool shot, .bool bat, .bool void] 43) rfl
  replace hB := heap_alloc (X := (.cells #[.slice none 0 0, .bool left, .bool shot, .bool bat, .bool void] 43)) hB
  have hsz3 := hK.size
  have hK3 := hK
  replace hK := hK.alloc hK.size (.cells #[.slice none 0 0, .bool left, .bool shot, .bool bat, .bool void] 43)
  (clear b0 b1 b2 b3 b4)
  go_loopw [30] (fun x wr => ∃ i : Nat, i ≤ l.length ∧ x = .int .i64 i ∧ Below w.heap.size w wr ∧ w3.heap.size + 1 ≤ wr.heap.size ∧ wr.heap[w.heap.size]? = some (.cells #[.slice pa l.length cap, .bool left, .bool shot, .bool bat, .bool void] 43) ∧ ∃ cs, wr.heap[w3.heap.size]? = some (.cells #[cs, .bool left, .bool shot, .bool bat, .bool void] 43) ∧ wr.ownsRow (w3.heap.size + 1) 38 5 cs i (((l.take i).map (lessS k)).flatMap cells5)) (fun x _ => l.length - (intOf x).toNat)
  case atStart => exact ⟨0, by omega, rfl, hK, by simp, hB, _, hC, World.ownsRow_nil _ _ _ _⟩
  case round =>
    obtain ⟨i, hi, rfl, hb0, hs0, hB0, cs, hC0, hO⟩ := hrel
    rcases Nat.lt_or_ge i l.length with hlt | hge
    · obtain rfl := g1 (by omega)
      obtain ⟨s, hs⟩ := some_of' (l := l) hlt
      obtain ⟨c0, c1, c2, c3, c4⟩ := (h4s i s hs).below hb0
      obtain ⟨_, _, _, _, se1, se2⟩ := okS_iff.1 (hok.out s (List.mem_of_getElem? hs))
      have hT : (l.take (i + 1)).map (lessS k) = (l.take i).map (lessS k) ++ [lessS k s] := take_next _ hs
      have hTT := Lib.hid hT
      have hn : l.length - (i + 1) < l.length - i := by omega
      have d0 := cell_heap (o := 0) hC0 rfl
      have y0 := frozen_heap (o := 0) hC0
      have hltC := (Array.getElem?_eq_some_iff.1 hC0).1
      have hltB := (Array.getElem?_eq_some_iff.1 hB0).1
      clear hs hT
      generalize (l.take i).map (lessS k) = P at *
      rcases Int.lt_or_le (s.2.2.2.2 - k) 1 with hx | hx
      · have hls : lessS k s = (s.1, s.2.1, s.2.2.1, s.2.2.2.1, 1) := by unfold lessS; rw [show max (s.2.2.2.2 - k) 1 = 1 by omega]
        have hLS := Lib.hid hls
        clear hls
        go_wp2_with (at_builtin; refine wpList_append_own _ rfl _ _ 22 rfl (w3.heap.size + 1) 38 i0 zeroS 5 40 Try.underlying22 hi0 hz0 hz1 hz2 rfl (by decide) _ _ _ rfl ((hO.alloc _).alloc _) ⟨wr.heap.size + 1, 0, none⟩ 1 1 [.int .i64 s.1, .int .i64 s.2.1, .int .i64 s.2.2.1, .int .i64 s.2.2.2.1, .int .i64 (1)] rfl rfl ?_ (fun x hx => by simp at hx; rcases hx with rfl | rfl | rfl | rfl | rfl <;> rfl) (by unfold maxLen; omega) (by omega) (by simp; omega) ?_; rotate_left; intro v' w4 hown' hgrow4 hnil4; obtain ⟨gg, cc, rfl, hgg, hgl⟩ := own_form hown' (by omega); have hB4 : w4.heap[w.heap.size]? = some (.cells #[.slice (some ⟨b, o, none⟩) l.length cap, .bool left, .bool shot, .bool bat, .bool void] 43) := (hgrow4.block _ (by simp; omega) (ne_own hO (by omega))).trans (heap_alloc (heap_alloc hB0)); have hC4 : w4.heap[w3.heap.size]? = some (.cells #[cs, .bool left, .bool shot, .bool bat, .bool void] 43) := (hgrow4.block _ (by simp; omega) (ne_own hO (by omega))).trans (heap_alloc (heap_alloc hC0)); have e0 := cell_heap (o := 0) hC4 rfl; have y4 := frozen_heap (o := 0) hC4; have hb4 := ((hb0.alloc hb0.size (.cells #[.int .i64 s.1, .int .i64 s.2.1, .int .i64 s.2.2.1, .int .i64 s.2.2.2.1, .int .i64 (1)] 38)).alloc (by simp; omega) (.cells #[.int .i64 s.1, .int .i64 s.2.1, .int .i64 s.2.2.1, .int .i64 s.2.2.2.1, .int .i64 (1)] 38)).grown hgrow4 (by simp; omega) (fun q hq => by have := (hO.lt q hq).1; omega); have hs4 : w3.heap.size + 1 ≤ w4.heap.size := Nat.le_trans hs0 (Nat.le_trans (by simp; omega) hgrow4.size))
        · have hC5 := heap_set (o := 0) (v := .slice (some ⟨gg, 0, none⟩) (i + 1) cc) hC4
          simp only [List.setIfInBounds_toArray, List.set_cons_succ, List.set_cons_zero] at hC5
          have eT : ((l.take (i + 1)).map (lessS k)).flatMap cells5 = P.flatMap cells5 ++ [.int .i64 s.1, .int .i64 s.2.1, .int .i64 s.2.2.1, .int .i64 s.2.2.2.1, .int .i64 (1)] := by rw [hTT.out, hLS.out, List.flatMap_append]; rfl
          have hO5 := own_other (o := 0) (u := .slice (some ⟨gg, 0, none⟩) (i + 1) cc) hown' (show w3.heap.size < w3.heap.size + 1 by omega)
          rw [← eT] at hO5
          refine ⟨⟨i + 1, hlt, by simp, Below.setCell hb4 (by omega) _, Nat.le_trans hs4 (Below.setCell (Below.refl w3.heap.size w4) (Nat.le_refl _) _ (p := ⟨w3.heap.size, 0, none⟩)).size, heap_set_other hB4 (by omega), _, hC5, hO5⟩, by simpa [intOf] using hn⟩
      · have hls : lessS k s = (s.1, s.2.1, s.2.2.1, s.2.2.2.1, s.2.2.2.2 - k) := by unfold lessS; rw [show max (s.2.2.2.2 - k) 1 = s.2.2.2.2 - k by omega]
        have hLS := Lib.hid hls
        clear hls
        go_wp2_with (at_builtin; refine wpList_append_own _ rfl _ _ 22 rfl (w3.heap.size + 1) 38 i0 zeroS 5 40 Try.underlying22 hi0 hz0 hz1 hz2 rfl (by decide) _ _ _ rfl ((hO.alloc _).alloc _) ⟨wr.heap.size + 1, 0, none⟩ 1 1 [.int .i64 s.1, .int .i64 s.2.1, .int .i64 s.2.2.1, .int .i64 s.2.2.2.1, .int .i64 (s.2.2.2.2 - k)] rfl rfl ?_ (fun x hx => by simp at hx; rcases hx with rfl | rfl | rfl | rfl | rfl <;> rfl) (by unfold maxLen; omega) (by omega) (by simp; omega) ?_; rotate_left; intro v' w4 hown' hgrow4 hnil4; obtain ⟨gg, cc, rfl, hgg, hgl⟩ := own_form hown' (by omega); have hB4 : w4.heap[w.heap.size]? = some (.cells #[.slice (some ⟨b, o, none⟩) l.length cap, .bool left, .bool shot, .bool bat, .bool void] 43) := (hgrow4.block _ (by simp; omega) (ne_own hO (by omega))).trans (heap_alloc (heap_alloc hB0)); have hC4 : w4.heap[w3.heap.size]? = some (.cells #[cs, .bool left, .bool shot, .bool bat, .bool void] 43) := (hgrow4.block _ (by simp; omega) (ne_own hO (by omega))).trans (heap_alloc (heap_alloc hC0)); have e0 := cell_heap (o := 0) hC4 rfl; have y4 := frozen_heap (o := 0) hC4; have hb4 := ((hb0.alloc hb0.size (.cells #[.int .i64 s.1, .int .i64 s.2.1, .int .i64 s.2.2.1, .int .i64 s.2.2.2.1, .int .i64 (s.2.2.2.2 - k)] 38)).alloc (by simp; omega) (.cells #[.int .i64 s.1, .int .i64 s.2.1, .int .i64 s.2.2.1, .int .i64 s.2.2.2.1, .int .i64 (s.2.2.2.2 - k)] 38)).grown hgrow4 (by simp; omega) (fun q hq => by have := (hO.lt q hq).1; omega); have hs4 : w3.heap.size + 1 ≤ w4.heap.size := Nat.le_trans hs0 (Nat.le_trans (by simp; omega) hgrow4.size))
        · have hC5 := heap_set (o := 0) (v := .slice (some ⟨gg, 0, none⟩) (i + 1) cc) hC4
          simp only [List.setIfInBounds_toArray, List.set_cons_succ, List.set_cons_zero] at hC5
          have eT : ((l.take (i + 1)).map (lessS k)).flatMap cells5 = P.flatMap cells5 ++ [.int .i64 s.1, .int .i64 s.2.1, .int .i64 s.2.2.1, .int .i64 s.2.2.2.1, .int .i64 (s.2.2.2.2 - k)] := by rw [hTT.out, hLS.out, List.flatMap_append]; rfl
          have hO5 := own_other (o := 0) (u := .slice (some ⟨gg, 0, none⟩) (i + 1) cc) hown' (show w3.heap.size < w3.heap.size + 1 by omega)
          rw [← eT] at hO5
          refine ⟨⟨i + 1, hlt, by simp, Below.setCell hb4 (by omega) _, Nat.le_trans hs4 (Below.setCell (Below.refl w3.heap.size w4) (Nat.le_refl _) _ (p := ⟨w3.heap.size, 0, none⟩)).size, heap_set_other hB4 (by omega), _, hC5, hO5⟩, by simpa [intOf] using hn⟩
    · obtain rfl : i = l.length := by omega
      rw [List.take_length] at hO
      have hO' : wr.ownsRow (w3.heap.size + 1) 38 5 cs (l.map (lessS k)).length ((l.map (lessS k)).flatMap cells5) := by rw [List.length_map]; exact hO
      have hSe := seens_own hO'
      have d0 := cell_heap (o := 0) hC0 rfl
      have d1 := cell_heap (o := 1) hC0 rfl
      have d2 := cell_heap (o := 2) hC0 rfl
      have d3 := cell_heap (o := 3) hC0 rfl
      have d4 := cell_heap (o := 4) hC0 rfl
      clear hO hO'
      replace hB := hB0
      have hS0 := h.below hb0
      go_wp2_with (first
        | (go_at_call 20; refine (h3.out _ _ hSe).mono ?_; rintro e w5 ⟨rfl, hb5⟩; replace hSe := hSe.below hb5; replace hb0 := Below.next hb0 (Nat.le_refl _) hb5; replace hC0 := heap_old hb5 hC0; replace hB := heap_old hb5 hB; replace hS0 := hS0.below hb5; clear hb5 d0 d1 d2 d3 d4; have d0 := cell_heap (o := 0) hC0 rfl; have d1 := cell_heap (o := 1) hC0 rfl; have d2 := cell_heap (o := 2) hC0 rfl; have d3 := cell_heap (o := 3) hC0 rfl; have d4 := cell_heap (o := 4) hC0 rfl; have b0 := cell_heap (o := 0) hB rfl; have b1 := cell_heap (o := 1) hB rfl; have b2 := cell_heap (o := 2) hB rfl; have b3 := cell_heap (o := 3) hB rfl; have b4 := cell_heap (o := 4) hB rfl)
        | (go_at_call 23; have hq0 := hV; clear hq0; refine (h2.out _ _ hSe).mono ?_; rintro e w7 ⟨rfl, hb7⟩; have hU := heap_new w7 (.cells #[.int .u8 CB, .int .u8 LF, .int .u8 LJ, .int .u8 WL] 47) rfl; replace hV := heap_alloc (X := (.cells #[.int .u8 CB, .int .u8 LF, .int .u8 LJ, .int .u8 WL] 47)) (heap_old hb7 hV); replace hb0 := Below.next hb0 (Nat.le_refl _) hb7; replace hb0 := hb0.alloc hb0.size (.cells #[.int .u8 CB, .int .u8 LF, .int .u8 LJ, .int .u8 WL] 47); have v0 := cell_heap (o := 0) hV rfl; have y0 := cell_heap (o := 0) hU rfl)
        | (go_at_call 23; refine (h1.out _ hS0).mono ?_; rintro e w6 ⟨rfl, hb6⟩; have hV := heap_new w6 (.cells #[.int .u8 CA, .int .u8 LE, .int .u8 LI, .int .u8 WK] 47) rfl; replace hSe := (hSe.below hb6).below (Below.alloc (Below.refl _ _) (Nat.le_refl _) (.cells #[.int .u8 CA, .int .u8 LE, .int .u8 LI, .int .u8 WK] 47)); replace hC0 := heap_alloc (X := (.cells #[.int .u8 CA, .int .u8 LE, .int .u8 LI, .int .u8 WK] 47)) (heap_old hb6 hC0); replace hb0 := Below.next hb0 (Nat.le_refl _) hb6; replace hb0 := hb0.alloc hb0.size (.cells #[.int .u8 CA, .int .u8 LE, .int .u8 LI, .int .u8 WK] 47); clear hb6 d0 d1 d2 d3 d4 b0 b1 b2 b3 b4 hB; have d0 := cell_heap (o := 0) hC0 rfl; have d1 := cell_heap (o := 1) hC0 rfl; have d2 := cell_heap (o := 2) hC0 rfl; have d3 := cell_heap (o := 3) hC0 rfl; have d4 := cell_heap (o := 4) hC0 rfl))
      all_goals
        go_ret
        refine ⟨ret_bool ?_, (by first | exact hb0 | (subst_vars; exact hb0))⟩
        have := hsu.out
        cases PB <;> simp_all
theorem lbwSurer_walk (v : Value) (l : List SN) (left shot bat void : Bool) (k : Int) (w : World) (h : Seens w v l) (k0 : 0 ≤ k) (k1 : k ≤ 255) : Calls Try.prog 15 #[.agg #[v, .bool left, .bool shot, .bool bat, .bool void], .int .u8 k] w fun e w' => e = .returned (.bool true) ∧ Below w.heap.size w w' := by
  cases hfb : fewB l with
  | false => exact lbwSurer_few v l left shot bat void k w h hfb
  | true =>
    by_cases hb : behE l = 0
    · exact lbwSurer_all v l left shot bat void k w h k0 k1 hfb hb
    · exact lbwSurer_bad v l left shot bat void k w h hfb hb
end Go.Proofs.Ytmdledlbkdcmnaa
