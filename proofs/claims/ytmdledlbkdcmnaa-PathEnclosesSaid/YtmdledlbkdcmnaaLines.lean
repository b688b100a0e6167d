/-
  Contract of path.Lines.
  Conditions: none.
-/
import Derived.Test.YtmdledlbkdcmnaaDuring
import Derived.Test.YtmdledlbkdcmnaaPathB1
import Derived.Test.YtmdledlbkdcmnaaPathB2
import Derived.Test.YtmdledlbkdcmnaaFits
namespace Go.Proofs.Ytmdledlbkdcmnaa
open Go.RowKit
theorem bounds_any (v : Value) (l : List SN) (ax : Int) (w : World) (h : Seens w v l) (hok : ∀ s ∈ l, okS s = true) (hl : l.length ≤ 64) (h1 : 0 ≤ ax) (h2 : ax ≤ 2) : Calls Try.prog 57 #[v, .int .i64 ax] w fun e w' => ∃ u, e = .returned u ∧ Bnds w' u (bnds ax l) ∧ Below w.heap.size w w' := by
  rcases (show ax = 0 ∨ ax = 1 ∨ ax = 2 by omega) with rfl | rfl | rfl
  · exact bounds0 v l w h hok hl
  · exact bounds1 v l w h hok hl
  · exact bounds2 v l w h hok hl
theorem lastB_bnds {ax : Int} {l : List SN} {s : SN} (h : l[l.length - 1]? = some s) : lastB (bnds ax l) = bndS ax s := by
  apply lastB_some
  rw [bnds_len]
  unfold bnds
  rw [List.getElem?_map, h]; rfl
/-- The ends of the range at a time, of the lines between bounds. -/
theorem enclose_rims {X : List BD} (hX : ∀ b ∈ X, okB b) (r : RisingB X) (h2 : 2 ≤ X.length) (v1 v2 : Value) (t : Int) (w : World) (h1 : Lns w v1 (lows X)) (h3 : Lns w v2 (upps X)) (t1 : -10 ≤ t) (t2 : t ≤ 5000) :
    Calls Try.prog 70 #[v1, v2, .int .i64 t] w fun e w' => e = .returned (.agg #[.int .i64 (loR X t t), .int .i64 (hiR X t t)]) ∧ Below w.heap.size w w' := by
  have hpos : 0 < (lows X).length := by
    have := lows_ne h2 (fun _ => 0)
    rcases Nat.eq_zero_or_pos (lows X).length with e | e
    · exact absurd (by rw [List.length_eq_zero_iff.1 e]; rfl) this
    · exact e
  have e1 : (lows X).map (loP t t) = (lows X).map fun x => flL x t := List.map_congr_left fun x _ => loP_same t x
  have e2 : (upps X).map (hiP t t) = (upps X).map fun x => ceL x t := List.map_congr_left fun x _ => hiP_same t x
  unfold loR hiR
  rw [e1, e2]
  exact enclose_any v1 v2 _ _ t w h1 h3 (lows_len X).symm hpos (lows_ok hX r) (upps_ok hX r) t1 t2
theorem during_rims {X : List BD} (hX : ∀ b ∈ X, okB b) (r : RisingB X) (h2 : 2 ≤ X.length) (v1 v2 : Value) (s t : Int) (w : World) (h1 : Lns w v1 (lows X)) (h3 : Lns w v2 (upps X)) (s1 : -10 ≤ s) (s2 : s ≤ 5000) (t1 : -10 ≤ t) (t2 : t ≤ 5000) :
    Calls Try.prog 79 #[v1, v2, .agg #[.int .i64 s, .int .i64 t]] w fun e w' => e = .returned (.agg #[.int .i64 (loR X s t), .int .i64 (hiR X s t)]) ∧ Below w.heap.size w w' := by
  have hpos : 0 < (lows X).length := by
    have := lows_ne h2 (fun _ => 0)
    rcases Nat.eq_zero_or_pos (lows X).length with e | e
    · exact absurd (by rw [List.length_eq_zero_iff.1 e]; rfl) this
    · exact e
  exact during_any v1 v2 _ _ s t w h1 h3 (lows_len X).symm hpos (lows_ok hX r) (upps_ok hX r) s1 s2 t1 t2
def linV (l : List SN) (ax t : Int) : Value := .tuple #[.agg #[.int .i64 (linLo l ax t), .int .i64 (linHi l ax t)], .int .i64 (linE l ax t)]
theorem linV_bad {l : List SN} {ax t e : Int} (h : linE l ax t = e) (hne : e ≠ 0) : linV l ax t = .tuple #[.agg #[.int .i64 0, .int .i64 0], .int .i64 e] := by
  unfold linV linLo linHi
  rw [h, if_neg hne, if_neg hne]
set_option maxRecDepth 100000 in
set_option maxHeartbeats 4000000 in
theorem lines_any (v : Value) (l : List SN) (ax t : Int) (w : World) (h : Seens w v l) : Calls Try.prog 30 #[v, .int .i64 ax, .int .i64 t] w fun e w' => e = .returned (linV l ax t) ∧ Below w.heap.size w w' := by
  by_cases hax : ax < 0 ∨ 2 < ax
  · have e1 : linV l ax t = .tuple #[.agg #[.int .i64 0, .int .i64 0], .int .i64 1] := linV_bad (by unfold linE; rw [if_pos hax]) (by omega)
    rw [e1]
    go_enter Try.func30, Try.ntmps30
    go_wp2_with fail
    all_goals first
      | (refine bodyPost_ret (v := .tuple #[.agg #[.int .i64 0, .int .i64 0], .int .i64 1]) (by simp only [results, Try.results30]; go_simp) rfl ⟨rfl, (by repeat (first | with_reducible exact Below.refl _ _ | with_reducible assumption | with_reducible refine Below.drew ?_ | with_reducible refine Below.setCell ?_ (by first | omega | (simp; omega) | simp) _ | with_reducible refine Below.alloc ?_ (by first | omega | (simp; omega) | simp) _ | with_reducible refine Below.trans ?_ (Below.mono (by with_reducible assumption) (by first | omega | (simp; omega) | simp))))⟩)
      | (exfalso; omega)
  obtain ⟨x1, x2⟩ : 0 ≤ ax ∧ ax ≤ 2 := by omega
  by_cases hb : behE l = 0
  · have hbl := (behE_len hb).2
    have hok := Lib.hid (bhd_ok (l := l))
    have hrs := Lib.hid (bnds_rise ax l)
    have hbo := Lib.hid (bnds_ok (ax := ax) (l := l))
    have hl64 := bhd_len l
    obtain ⟨n, hn⟩ : ∃ n, (bhdL l).length = n + 1 := ⟨(bhdL l).length - 1, by omega⟩
    obtain ⟨s, hs⟩ := some_of' (l := bhdL l) (i := n) (by omega)
    have hlast : lastB (bnds ax (bhdL l)) = bndS ax s := lastB_bnds (by rw [hn]; simpa using hs)
    have hlt1 : (lastB (bnds ax (bhdL l))).1 = s.1 := by rw [hlast, bndS_t]
    obtain ⟨⟨s1, s2⟩, _⟩ := okS_iff.1 (hok.out s (List.mem_of_getElem? hs))
    have hXl := bnds_len ax (bhdL l)
    have hbeh := Lib.hid (fun w' (h : Seens w' v l) => by have := pbehind_any v l w' h; rwa [hb] at this)
    by_cases ht : t < s.1 ∨ s.1 + 400 < t
    · have e1 : linV l ax t = .tuple #[.agg #[.int .i64 0, .int .i64 0], .int .i64 2] := linV_bad (by unfold linE; rw [if_neg hax, if_neg (by simp [hb]), hlt1, if_pos ht]) (by omega)
      rw [e1]
      have hS := Lib.hid hs
      clear hs hlast hlt1 hb e1 hax
      generalize hq : bhdL l = S at *
      clear hq
      go_enter Try.func30, Try.ntmps30
      go_wp2_with (go_at_call 55; refine (hbeh.out _ (h.below (by repeat (first | with_reducible exact Below.refl _ _ | with_reducible assumption | with_reducible refine Below.drew ?_ | with_reducible refine Below.setCell ?_ (by first | omega | (simp; omega) | simp) _ | with_reducible refine Below.alloc ?_ (by first | omega | (simp; omega) | simp) _ | with_reducible refine Below.trans ?_ (Below.mono (by with_reducible assumption) (by first | omega | (simp; omega) | simp)))))).mono ?_; rintro e w1 ⟨⟨u, rfl, hu⟩, hb1⟩; obtain ⟨pa, b, o, cap, rfl, g1, g2, g3, g4⟩ := hu (by first | rfl | trivial); have hB1 : Below w.heap.size w w1 := Below.next1 (Below.refl _ _) (Nat.le_refl _) hb1; obtain rfl := g1 (by omega); obtain ⟨c0, c1, c2, c3, c4⟩ := g4 n s hS.out; have hR := heap_old hb1 (heap_new w (.cells #[.int .i64 0, .int .i64 0] 34) rfl); have r0 := cell_heap (o := 0) hR rfl; have r1 := cell_heap (o := 1) hR rfl; have z0 := frozen_heap (o := 0) hR; have z1 := frozen_heap (o := 1) hR; clear g4 hb1; rw [hn] at g2 ⊢)
      all_goals
        have hE := heap_set (o := 1) (v := .int .i64 0) (heap_set (o := 0) (v := .int .i64 0) hR); simp only [List.setIfInBounds_toArray, List.set_cons_succ, List.set_cons_zero] at hE; have k0 := cell_heap (o := 0) hE rfl; have k1 := cell_heap (o := 1) hE rfl
        refine bodyPost_ret (v := .tuple #[.agg #[.int .i64 0, .int .i64 0], .int .i64 2]) (by simp only [results, Try.results30]; go_simp) rfl ⟨rfl, (by repeat (first | with_reducible exact Below.refl _ _ | with_reducible assumption | with_reducible refine Below.drew ?_ | with_reducible refine Below.setCell ?_ (by first | omega | (simp; omega) | simp) _ | with_reducible refine Below.alloc ?_ (by first | omega | (simp; omega) | simp) _ | with_reducible refine Below.trans ?_ (Below.mono (by with_reducible assumption) (by first | omega | (simp; omega) | simp))))⟩
    · have hX2 : 2 ≤ (bnds ax (bhdL l)).length := by omega
      have hXb := Lib.hid (fun w' u (h : Seens w' u (bhdL l)) => bounds_any u (bhdL l) ax w' h hok.out hl64 x1 x2)
      obtain ⟨ht1, ht2⟩ : s.1 ≤ t ∧ t ≤ s.1 + 400 := by omega
      have hS := Lib.hid hs
      by_cases hf : fitsB (bnds ax (bhdL l)) = true
      · have e0 : linE l ax t = 0 := by unfold linE; rw [if_neg hax, if_neg (by simp [hb]), hlt1, if_neg ht, if_pos hf]
        have e1 : linV l ax t = .tuple #[.agg #[.int .i64 (loR (bnds ax (bhdL l)) t t), .int .i64 (hiR (bnds ax (bhdL l)) t t)], .int .i64 0] := by
          unfold linV linLo linHi; rw [e0]; rfl
        rw [e1]
        clear hs hlast hlt1 hb e1 e0 hax ht
        generalize bnds ax (bhdL l) = X at *
        have hfit := Lib.hid (fun w' u (h : Bnds w' u X) => by have := pfits_any u X w' h hbo.out (by omega); rwa [hf] at this)
        have hrim := Lib.hid (fun w' u (h : Bnds w' u X) => rims_any u X w' h hbo.out (by omega))
        have henc := Lib.hid (fun w' v1 v2 (h1 : Lns w' v1 (lows X)) (h2 : Lns w' v2 (upps X)) => enclose_rims hbo.out hrs.out hX2 v1 v2 t w' h1 h2 (by omega) (by omega))
        clear hf
        generalize loR X t t = A at *
        generalize hiR X t t = B at *
        generalize hq : bhdL l = S at *
        clear hq
        go_enter Try.func30, Try.ntmps30
        go_wp2_with (first
          | (go_at_call 55; refine (hbeh.out _ (h.below (by repeat (first | with_reducible exact Below.refl _ _ | with_reducible assumption | with_reducible refine Below.drew ?_ | with_reducible refine Below.setCell ?_ (by first | omega | (simp; omega) | simp) _ | with_reducible refine Below.alloc ?_ (by first | omega | (simp; omega) | simp) _ | with_reducible refine Below.trans ?_ (Below.mono (by with_reducible assumption) (by first | omega | (simp; omega) | simp)))))).mono ?_; rintro e w1 ⟨⟨u, rfl, hu⟩, hb1⟩; have hu0 := hu (by first | rfl | trivial); have hu1 := hu0; obtain ⟨pa, b, o, cap, rfl, g1, g2, g3, g4⟩ := hu1; clear hu; have hB1 : Below w.heap.size w w1 := Below.next1 (Below.refl _ _) (Nat.le_refl _) hb1; obtain rfl := g1 (by omega); obtain ⟨c0, c1, c2, c3, c4⟩ := g4 n s hS.out; have hR := heap_old hb1 (heap_new w (.cells #[.int .i64 0, .int .i64 0] 34) rfl); have r0 := cell_heap (o := 0) hR rfl; have r1 := cell_heap (o := 1) hR rfl; have z0 := frozen_heap (o := 0) hR; have z1 := frozen_heap (o := 1) hR; clear g4 hb1; rw [hn] at g2 hu0 ⊢)
          | (go_at_call 57; refine (hXb.out _ _ hu0).mono ?_; rintro e w2 ⟨x, rfl, hx, hb2⟩; have hB2 := Below.next hB1 (Nat.le_refl _) hb2; replace hR := heap_old hb2 hR)
          | (go_at_call 56; refine (hfit.out _ _ hx).mono ?_; rintro e w3 ⟨rfl, hb3⟩; have hB3 := Below.next hB2 (Nat.le_refl _) hb3; replace hR := heap_old hb3 hR; have hx3 := hx.below hb3)
          | (go_at_call 69; refine (hrim.out _ _ hx3).mono ?_; rintro e w4 ⟨y1, y2, rfl, hy1, hy2, hb4⟩; have hB4 := Below.next hB3 (Nat.le_refl _) hb4; replace hR := heap_old hb4 hR)
          | (go_at_call 70; refine (henc.out _ _ _ hy1 hy2).mono ?_; rintro e w5 ⟨rfl, hb5⟩; have hB5 := Below.next hB4 (Nat.le_refl _) hb5; replace hR := heap_old hb5 hR; clear r0 r1 z0 z1; have r0 := cell_heap (o := 0) hR rfl; have r1 := cell_heap (o := 1) hR rfl; have z0 := frozen_heap (o := 0) hR; have z1 := frozen_heap (o := 1) hR))
        have hE := heap_set (o := 1) (v := .int .i64 B) (heap_set (o := 0) (v := .int .i64 A) hR)
        simp only [List.setIfInBounds_toArray, List.set_cons_succ, List.set_cons_zero] at hE
        have k0 := cell_heap (o := 0) hE rfl
        have k1 := cell_heap (o := 1) hE rfl
        refine bodyPost_ret (v := .tuple #[.agg #[.int .i64 A, .int .i64 B], .int .i64 0]) (by simp only [results, Try.results30]; go_simp) rfl ⟨rfl, (by repeat (first | with_reducible exact Below.refl _ _ | with_reducible assumption | with_reducible refine Below.drew ?_ | with_reducible refine Below.setCell ?_ (by first | omega | (simp; omega) | simp) _ | with_reducible refine Below.alloc ?_ (by first | omega | (simp; omega) | simp) _ | with_reducible refine Below.trans ?_ (Below.mono (by with_reducible assumption) (by first | omega | (simp; omega) | simp))))⟩
      · have e1 : linV l ax t = .tuple #[.agg #[.int .i64 0, .int .i64 0], .int .i64 13] := linV_bad (by unfold linE; rw [if_neg hax, if_neg (by simp [hb]), hlt1, if_neg ht, if_neg hf]) (by omega)
        rw [e1]
        have hf' : fitsB (bnds ax (bhdL l)) = false := by simpa using hf
        clear hs hlast hlt1 hb e1 hax ht hf
        generalize bnds ax (bhdL l) = X at *
        have hfit := Lib.hid (fun w' u (h : Bnds w' u X) => by have := pfits_any u X w' h hbo.out (by omega); rwa [hf'] at this)
        clear hf'
        generalize hq : bhdL l = S at *
        clear hq
        go_enter Try.func30, Try.ntmps30
        go_wp2_with (first
          | (go_at_call 55; refine (hbeh.out _ (h.below (by repeat (first | with_reducible exact Below.refl _ _ | with_reducible assumption | with_reducible refine Below.drew ?_ | with_reducible refine Below.setCell ?_ (by first | omega | (simp; omega) | simp) _ | with_reducible refine Below.alloc ?_ (by first | omega | (simp; omega) | simp) _ | with_reducible refine Below.trans ?_ (Below.mono (by with_reducible assumption) (by first | omega | (simp; omega) | simp)))))).mono ?_; rintro e w1 ⟨⟨u, rfl, hu⟩, hb1⟩; have hu0 := hu (by first | rfl | trivial); have hu1 := hu0; obtain ⟨pa, b, o, cap, rfl, g1, g2, g3, g4⟩ := hu1; clear hu; have hB1 : Below w.heap.size w w1 := Below.next1 (Below.refl _ _) (Nat.le_refl _) hb1; obtain rfl := g1 (by omega); obtain ⟨c0, c1, c2, c3, c4⟩ := g4 n s hS.out; have hR := heap_old hb1 (heap_new w (.cells #[.int .i64 0, .int .i64 0] 34) rfl); have r0 := cell_heap (o := 0) hR rfl; have r1 := cell_heap (o := 1) hR rfl; have z0 := frozen_heap (o := 0) hR; have z1 := frozen_heap (o := 1) hR; clear g4 hb1; rw [hn] at g2 hu0 ⊢)
          | (go_at_call 57; refine (hXb.out _ _ hu0).mono ?_; rintro e w2 ⟨x, rfl, hx, hb2⟩; have hB2 := Below.next hB1 (Nat.le_refl _) hb2; replace hR := heap_old hb2 hR)
          | (go_at_call 56; refine (hfit.out _ _ hx).mono ?_; rintro e w3 ⟨rfl, hb3⟩; have hB3 := Below.next hB2 (Nat.le_refl _) hb3; replace hR := heap_old hb3 hR; clear r0 r1 z0 z1; have r0 := cell_heap (o := 0) hR rfl; have r1 := cell_heap (o := 1) hR rfl; have z0 := frozen_heap (o := 0) hR; have z1 := frozen_heap (o := 1) hR))
        have hE := heap_set (o := 1) (v := .int .i64 0) (heap_set (o := 0) (v := .int .i64 0) hR); simp only [List.setIfInBounds_toArray, List.set_cons_succ, List.set_cons_zero] at hE; have k0 := cell_heap (o := 0) hE rfl; have k1 := cell_heap (o := 1) hE rfl
        refine bodyPost_ret (v := .tuple #[.agg #[.int .i64 0, .int .i64 0], .int .i64 13]) (by simp only [results, Try.results30]; go_simp) rfl ⟨rfl, (by repeat (first | with_reducible exact Below.refl _ _ | with_reducible assumption | with_reducible refine Below.drew ?_ | with_reducible refine Below.setCell ?_ (by first | omega | (simp; omega) | simp) _ | with_reducible refine Below.alloc ?_ (by first | omega | (simp; omega) | simp) _ | with_reducible refine Below.trans ?_ (Below.mono (by with_reducible assumption) (by first | omega | (simp; omega) | simp))))⟩
  · have e1 : linV l ax t = .tuple #[.agg #[.int .i64 0, .int .i64 0], .int .i64 (behE l)] := linV_bad (by unfold linE; rw [if_neg hax, if_pos hb]) hb
    rw [e1]
    have hbeh := Lib.hid (fun w' (h : Seens w' v l) => pbehind_any v l w' h)
    have hb' : (behE l != 0) = true := by simpa using hb
    clear e1 hax hb
    generalize behE l = E at *
    go_enter Try.func30, Try.ntmps30
    go_wp2_with (go_at_call 55; refine (hbeh.out _ (h.below (by repeat (first | with_reducible exact Below.refl _ _ | with_reducible assumption | with_reducible refine Below.drew ?_ | with_reducible refine Below.setCell ?_ (by first | omega | (simp; omega) | simp) _ | with_reducible refine Below.alloc ?_ (by first | omega | (simp; omega) | simp) _ | with_reducible refine Below.trans ?_ (Below.mono (by with_reducible assumption) (by first | omega | (simp; omega) | simp)))))).mono ?_; rintro e w1 ⟨⟨u, rfl, hu⟩, hb1⟩; clear hu; have hB1 : Below w.heap.size w w1 := Below.next1 (Below.refl _ _) (Nat.le_refl _) hb1; have hR := heap_old hb1 (heap_new w (.cells #[.int .i64 0, .int .i64 0] 34) rfl); have r0 := cell_heap (o := 0) hR rfl; have r1 := cell_heap (o := 1) hR rfl; have z0 := frozen_heap (o := 0) hR; have z1 := frozen_heap (o := 1) hR)
    have hE := heap_set (o := 1) (v := .int .i64 0) (heap_set (o := 0) (v := .int .i64 0) hR); simp only [List.setIfInBounds_toArray, List.set_cons_succ, List.set_cons_zero] at hE; have k0 := cell_heap (o := 0) hE rfl; have k1 := cell_heap (o := 1) hE rfl
    refine bodyPost_ret (v := .tuple #[.agg #[.int .i64 0, .int .i64 0], .int .i64 E]) (by simp only [results, Try.results30]; go_simp) rfl ⟨rfl, (by repeat (first | with_reducible exact Below.refl _ _ | with_reducible assumption | with_reducible refine Below.drew ?_ | with_reducible refine Below.setCell ?_ (by first | omega | (simp; omega) | simp) _ | with_reducible refine Below.alloc ?_ (by first | omega | (simp; omega) | simp) _ | with_reducible refine Below.trans ?_ (Below.mono (by with_reducible assumption) (by first | omega | (simp; omega) | simp))))⟩
end Go.Proofs.Ytmdledlbkdcmnaa
