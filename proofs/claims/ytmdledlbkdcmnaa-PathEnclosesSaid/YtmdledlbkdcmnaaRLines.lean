/-
  Contract of the reference's Lines.
  Conditions: none.
-/
import Derived.Test.YtmdledlbkdcmnaaBetween
namespace Go.Proofs.Ytmdledlbkdcmnaa
open Go.RowKit
theorem linE_alt (l : List SN) (ax t : Int) : linE l ax t = if bndE l ax ≠ 0 then bndE l ax else if t < (lastB (bnds ax (bhdL l))).1 ∨ (lastB (bnds ax (bhdL l))).1 + 400 < t then 2 else if fitsB (bnds ax (bhdL l)) = true then 0 else 13 := by
  unfold linE bndE
  by_cases h : ax < 0 ∨ 2 < ax
  · simp [h]
  · simp only [if_neg h]
theorem bndE_ok {l : List SN} {ax : Int} (h : bndE l ax = 0) : (0 ≤ ax ∧ ax ≤ 2) ∧ behE l = 0 := by
  unfold bndE at h
  split at h
  · omega
  · exact ⟨by omega, h⟩
set_option maxRecDepth 100000 in
set_option maxHeartbeats 4000000 in
theorem rlines_any (v : Value) (l : List SN) (ax t : Int) (w : World) (h : Seens w v l) : Calls Try.prog 31 #[v, .int .i64 ax, .int .i64 t] w fun e w' => e = .returned (linV l ax t) ∧ Below w.heap.size w w' := by
  by_cases hb : bndE l ax = 0
  · obtain ⟨⟨x1, x2⟩, hbe⟩ := bndE_ok hb
    have hbl := (behE_len hbe).2
    have hrs := Lib.hid (bnds_rise ax l)
    have hbo := Lib.hid (bnds_ok (ax := ax) (l := l))
    have hX64 := bnds_small ax l
    have hXl := bnds_len ax (bhdL l)
    obtain ⟨n, hn⟩ : ∃ n, (bnds ax (bhdL l)).length = n + 1 := ⟨(bhdL l).length - 1, by omega⟩
    obtain ⟨s, hs⟩ := some_of' (l := bnds ax (bhdL l)) (i := n) (by omega)
    have hlast : lastB (bnds ax (bhdL l)) = s := lastB_some (by rw [hn]; simpa using hs)
    obtain ⟨⟨s1, s2⟩, _⟩ := hbo.out s (List.mem_of_getElem? hs)
    have hbd := Lib.hid (fun w' (h : Seens w' v l) => by have := rbounds_any v l ax w' h; rwa [hb] at this)
    have hX2 : 2 ≤ (bnds ax (bhdL l)).length := by omega
    have hLE := linE_alt l ax t
    rw [if_neg (by simp [hb]), hlast] at hLE
    have hS := Lib.hid hs
    by_cases ht : t < s.1 ∨ s.1 + 400 < t
    · rw [if_pos ht] at hLE
      rw [linV_bad hLE (by omega)]
      clear hs hlast hb hbe hLE hXl
      generalize bnds ax (bhdL l) = X at *
      go_enter Try.func31, Try.ntmps31
      go_wp2_with (go_at_call 71; refine (hbd.out _ (h.below (by repeat (first | with_reducible exact Below.refl _ _ | with_reducible assumption | with_reducible refine Below.drew ?_ | with_reducible refine Below.setCell ?_ (by first | omega | (simp; omega) | simp) _ | with_reducible refine Below.alloc ?_ (by first | omega | (simp; omega) | simp) _ | with_reducible refine Below.trans ?_ (Below.mono (by with_reducible assumption) (by first | omega | (simp; omega) | simp)))))).mono ?_; rintro e w1 ⟨u, rfl, hu, hb1⟩; have hx := hu (by first | rfl | trivial); have hx1 := hx; obtain ⟨pa, b, o, cap, rfl, g1, g2, g3, g4⟩ := hx1; clear hu; have hB1 : Below w.heap.size w w1 := Below.next1 (Below.refl _ _) (Nat.le_refl _) hb1; obtain rfl := g1 (by omega); obtain ⟨c0, c1, c2⟩ := cB_at (g4 n s hS.out); have hR := heap_old hb1 (heap_new w (.cells #[.int .i64 0, .int .i64 0] 34) rfl); have r0 := cell_heap (o := 0) hR rfl; have r1 := cell_heap (o := 1) hR rfl; have z0 := frozen_heap (o := 0) hR; have z1 := frozen_heap (o := 1) hR; clear g4 hb1; rw [hn] at g2 hx ⊢)
      all_goals
        have hE := heap_set (o := 1) (v := .int .i64 0) (heap_set (o := 0) (v := .int .i64 0) hR); simp only [List.setIfInBounds_toArray, List.set_cons_succ, List.set_cons_zero] at hE; have k0 := cell_heap (o := 0) hE rfl; have k1 := cell_heap (o := 1) hE rfl
        refine bodyPost_ret (v := .tuple #[.agg #[.int .i64 0, .int .i64 0], .int .i64 2]) (by simp only [results, Try.results31]; go_simp) rfl ⟨rfl, (by repeat (first | with_reducible exact Below.refl _ _ | with_reducible assumption | with_reducible refine Below.drew ?_ | with_reducible refine Below.setCell ?_ (by first | omega | (simp; omega) | simp) _ | with_reducible refine Below.alloc ?_ (by first | omega | (simp; omega) | simp) _ | with_reducible refine Below.trans ?_ (Below.mono (by with_reducible assumption) (by first | omega | (simp; omega) | simp))))⟩
    · rw [if_neg ht] at hLE
      obtain ⟨ht1, ht2⟩ : s.1 ≤ t ∧ t ≤ s.1 + 400 := by omega
      by_cases hf : fitsB (bnds ax (bhdL l)) = true
      · rw [if_pos hf] at hLE
        have e1 : linV l ax t = .tuple #[.agg #[.int .i64 (loR (bnds ax (bhdL l)) t t), .int .i64 (hiR (bnds ax (bhdL l)) t t)], .int .i64 0] := by
          unfold linV linLo linHi; rw [hLE]; rfl
        rw [e1]
        clear hs hlast hb hbe hLE hXl e1 ht
        generalize bnds ax (bhdL l) = X at *
        have hfit := Lib.hid (fun w' u (h : Bnds w' u X) => by have := rpossible_any u X w' h hbo.out (by omega); rwa [hf] at this)
        have hbt := Lib.hid (fun w' u (h : Bnds w' u X) => rbetw_any u X t t w' h hbo.out hrs.out hX64 (by omega) (by omega) (by omega) (by omega))
        clear hf
        generalize loR X t t = A at *
        generalize hiR X t t = B at *
        go_enter Try.func31, Try.ntmps31
        go_wp2_with (first
          | (go_at_call 71; refine (hbd.out _ (h.below (by repeat (first | with_reducible exact Below.refl _ _ | with_reducible assumption | with_reducible refine Below.drew ?_ | with_reducible refine Below.setCell ?_ (by first | omega | (simp; omega) | simp) _ | with_reducible refine Below.alloc ?_ (by first | omega | (simp; omega) | simp) _ | with_reducible refine Below.trans ?_ (Below.mono (by with_reducible assumption) (by first | omega | (simp; omega) | simp)))))).mono ?_; rintro e w1 ⟨u, rfl, hu, hb1⟩; have hx := hu (by first | rfl | trivial); have hx1 := hx; obtain ⟨pa, b, o, cap, rfl, g1, g2, g3, g4⟩ := hx1; clear hu; have hB1 : Below w.heap.size w w1 := Below.next1 (Below.refl _ _) (Nat.le_refl _) hb1; obtain rfl := g1 (by omega); obtain ⟨c0, c1, c2⟩ := cB_at (g4 n s hS.out); have hR := heap_old hb1 (heap_new w (.cells #[.int .i64 0, .int .i64 0] 34) rfl); have r0 := cell_heap (o := 0) hR rfl; have r1 := cell_heap (o := 1) hR rfl; have z0 := frozen_heap (o := 0) hR; have z1 := frozen_heap (o := 1) hR; clear g4 hb1; rw [hn] at g2 hx ⊢)
          | (go_at_call 72; refine (hfit.out _ _ hx).mono ?_; rintro e w3 ⟨rfl, hb3⟩; have hB3 := Below.next hB1 (Nat.le_refl _) hb3; replace hR := heap_old hb3 hR; replace hx := hx.below hb3; clear hb3; (clear r0 r1 z0 z1; have r0 := cell_heap (o := 0) hR rfl; have r1 := cell_heap (o := 1) hR rfl; have z0 := frozen_heap (o := 0) hR; have z1 := frozen_heap (o := 1) hR))
          | (go_at_call 73; refine (hbt.out _ _ hx).mono ?_; rintro e w5 ⟨rfl, hb5⟩; have hB5 := Below.next hB3 (Nat.le_refl _) hb5; replace hR := heap_old hb5 hR; (clear r0 r1 z0 z1; have r0 := cell_heap (o := 0) hR rfl; have r1 := cell_heap (o := 1) hR rfl; have z0 := frozen_heap (o := 0) hR; have z1 := frozen_heap (o := 1) hR)))
        have hE := heap_set (o := 1) (v := .int .i64 B) (heap_set (o := 0) (v := .int .i64 A) hR)
        simp only [List.setIfInBounds_toArray, List.set_cons_succ, List.set_cons_zero] at hE
        have k0 := cell_heap (o := 0) hE rfl
        have k1 := cell_heap (o := 1) hE rfl
        refine bodyPost_ret (v := .tuple #[.agg #[.int .i64 A, .int .i64 B], .int .i64 0]) (by simp only [results, Try.results31]; go_simp) rfl ⟨rfl, (by repeat (first | with_reducible exact Below.refl _ _ | with_reducible assumption | with_reducible refine Below.drew ?_ | with_reducible refine Below.setCell ?_ (by first | omega | (simp; omega) | simp) _ | with_reducible refine Below.alloc ?_ (by first | omega | (simp; omega) | simp) _ | with_reducible refine Below.trans ?_ (Below.mono (by with_reducible assumption) (by first | omega | (simp; omega) | simp))))⟩
      · rw [if_neg hf] at hLE
        rw [linV_bad hLE (by omega)]
        have hf' : fitsB (bnds ax (bhdL l)) = false := by simpa using hf
        clear hs hlast hb hbe hLE hXl ht hf
        generalize bnds ax (bhdL l) = X at *
        have hfit := Lib.hid (fun w' u (h : Bnds w' u X) => by have := rpossible_any u X w' h hbo.out (by omega); rwa [hf'] at this)
        clear hf'
        go_enter Try.func31, Try.ntmps31
        go_wp2_with (first
          | (go_at_call 71; refine (hbd.out _ (h.below (by repeat (first | with_reducible exact Below.refl _ _ | with_reducible assumption | with_reducible refine Below.drew ?_ | with_reducible refine Below.setCell ?_ (by first | omega | (simp; omega) | simp) _ | with_reducible refine Below.alloc ?_ (by first | omega | (simp; omega) | simp) _ | with_reducible refine Below.trans ?_ (Below.mono (by with_reducible assumption) (by first | omega | (simp; omega) | simp)))))).mono ?_; rintro e w1 ⟨u, rfl, hu, hb1⟩; have hx := hu (by first | rfl | trivial); have hx1 := hx; obtain ⟨pa, b, o, cap, rfl, g1, g2, g3, g4⟩ := hx1; clear hu; have hB1 : Below w.heap.size w w1 := Below.next1 (Below.refl _ _) (Nat.le_refl _) hb1; obtain rfl := g1 (by omega); obtain ⟨c0, c1, c2⟩ := cB_at (g4 n s hS.out); have hR := heap_old hb1 (heap_new w (.cells #[.int .i64 0, .int .i64 0] 34) rfl); have r0 := cell_heap (o := 0) hR rfl; have r1 := cell_heap (o := 1) hR rfl; have z0 := frozen_heap (o := 0) hR; have z1 := frozen_heap (o := 1) hR; clear g4 hb1; rw [hn] at g2 hx ⊢)
          | (go_at_call 72; refine (hfit.out _ _ hx).mono ?_; rintro e w3 ⟨rfl, hb3⟩; have hB3 := Below.next hB1 (Nat.le_refl _) hb3; replace hR := heap_old hb3 hR; clear hb3; (clear r0 r1 z0 z1; have r0 := cell_heap (o := 0) hR rfl; have r1 := cell_heap (o := 1) hR rfl; have z0 := frozen_heap (o := 0) hR; have z1 := frozen_heap (o := 1) hR)))
        have hE := heap_set (o := 1) (v := .int .i64 0) (heap_set (o := 0) (v := .int .i64 0) hR); simp only [List.setIfInBounds_toArray, List.set_cons_succ, List.set_cons_zero] at hE; have k0 := cell_heap (o := 0) hE rfl; have k1 := cell_heap (o := 1) hE rfl
        refine bodyPost_ret (v := .tuple #[.agg #[.int .i64 0, .int .i64 0], .int .i64 13]) (by simp only [results, Try.results31]; go_simp) rfl ⟨rfl, (by repeat (first | with_reducible exact Below.refl _ _ | with_reducible assumption | with_reducible refine Below.drew ?_ | with_reducible refine Below.setCell ?_ (by first | omega | (simp; omega) | simp) _ | with_reducible refine Below.alloc ?_ (by first | omega | (simp; omega) | simp) _ | with_reducible refine Below.trans ?_ (Below.mono (by with_reducible assumption) (by first | omega | (simp; omega) | simp))))⟩
  · have hLE := linE_alt l ax t
    rw [if_pos hb] at hLE
    rw [linV_bad hLE hb]
    have hbd := Lib.hid (fun w' (h : Seens w' v l) => rbounds_any v l ax w' h)
    have hb' : (bndE l ax != 0) = true := by simpa using hb
    clear hLE hb
    generalize bndE l ax = E at *
    go_enter Try.func31, Try.ntmps31
    go_wp2_with (go_at_call 71; refine (hbd.out _ (h.below (by repeat (first | with_reducible exact Below.refl _ _ | with_reducible assumption | with_reducible refine Below.drew ?_ | with_reducible refine Below.setCell ?_ (by first | omega | (simp; omega) | simp) _ | with_reducible refine Below.alloc ?_ (by first | omega | (simp; omega) | simp) _ | with_reducible refine Below.trans ?_ (Below.mono (by with_reducible assumption) (by first | omega | (simp; omega) | simp)))))).mono ?_; rintro e w1 ⟨u, rfl, hu, hb1⟩; clear hu; have hB1 : Below w.heap.size w w1 := Below.next1 (Below.refl _ _) (Nat.le_refl _) hb1; have hR := heap_old hb1 (heap_new w (.cells #[.int .i64 0, .int .i64 0] 34) rfl); have r0 := cell_heap (o := 0) hR rfl; have r1 := cell_heap (o := 1) hR rfl; have z0 := frozen_heap (o := 0) hR; have z1 := frozen_heap (o := 1) hR)
    have hE := heap_set (o := 1) (v := .int .i64 0) (heap_set (o := 0) (v := .int .i64 0) hR); simp only [List.setIfInBounds_toArray, List.set_cons_succ, List.set_cons_zero] at hE; have k0 := cell_heap (o := 0) hE rfl; have k1 := cell_heap (o := 1) hE rfl
    refine bodyPost_ret (v := .tuple #[.agg #[.int .i64 0, .int .i64 0], .int .i64 E]) (by simp only [results, Try.results31]; go_simp) rfl ⟨rfl, (by repeat (first | with_reducible exact Below.refl _ _ | with_reducible assumption | with_reducible refine Below.drew ?_ | with_reducible refine Below.setCell ?_ (by first | omega | (simp; omega) | simp) _ | with_reducible refine Below.alloc ?_ (by first | omega | (simp; omega) | simp) _ | with_reducible refine Below.trans ?_ (Below.mono (by with_reducible assumption) (by first | omega | (simp; omega) | simp))))⟩
end Go.Proofs.Ytmdledlbkdcmnaa
