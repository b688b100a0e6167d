/-
  Contracts and laws, merged: Cross.
  Conditions: none.
-/
import Derived.Test.YtmdledlbkdcmnaaM7
import Derived.Test.YtmdledlbkdcmnaaM3
set_option linter.unusedSimpArgs false
set_option linter.unusedVariables false
/-
  Contract of path.Cross.
  Conditions: none.
-/
namespace Go.Proofs.Ytmdledlbkdcmnaa
open Go.RowKit
set_option linter.unusedSimpArgs false
theorem later_below {w : World} (x : Later w) : Below w.heap.size w x.1 := x.2
theorem nd_t {p : Prop} [Decidable p] (h : (!decide p) = true) : ¬p := by simpa using h
theorem nd_f {p : Prop} [Decidable p] (h : (!decide p) = false) : p := by simpa using h
set_option maxRecDepth 100000 in
set_option maxHeartbeats 8000000 in
theorem cross_good (v : Value) (l : List SN) (w : World) (h : Seens w v l) (hb : behE l = 0) (hp : posB l = true) (hc : comes (bnds 0 (bhdL l)) = true) (h4 : ¬((lastB (bnds 0 (bhdL l))).2.1 ≤ 0 ∨ 0 ≤ hiR (bnds 0 (bhdL l)) ((lastB (bnds 0 (bhdL l))).1 + 400) ((lastB (bnds 0 (bhdL l))).1 + 400))) : Calls Try.prog 38 #[v] w fun e w' => e = .returned (crsV l) ∧ Below w.heap.size w w' := by
  have hE0 := crsE_ok hb hp hc h4
  unfold crsV
  rw [if_pos hE0]
  have hpos := Lib.hid (fun w' (h : Seens w' v l) => by have := possible_any v l w' h; unfold posV at this; rwa [posOk_yes hb hp, hb] at this)
  have hbeh := Lib.hid (fun w' (h : Seens w' v l) => by have := pbehind_any v l w' h; rwa [hb] at this)
  have e0 : comE (bnds 0 (bhdL l)) = 0 := by unfold comE; rw [if_pos hc]
  have hcr := Lib.hid (fun w' u (h : Seens w' u (bhdL l)) => by have := crossing_any u (bhdL l) w' h bhd_ok (bhd_len l); rwa [e0] at this)
  have hbd0 := Lib.hid (fun w' u (h : Seens w' u (bhdL l)) => bounds0 u (bhdL l) w' h bhd_ok (bhd_len l))
  have hbd1 := Lib.hid (fun w' u (h : Seens w' u (bhdL l)) => bounds1 u (bhdL l) w' h bhd_ok (bhd_len l))
  have hbd2 := Lib.hid (fun w' u (h : Seens w' u (bhdL l)) => bounds2 u (bhdL l) w' h bhd_ok (bhd_len l))
  have hbl := (behE_len hb).2
  have hX2 : 2 ≤ (bnds 0 (bhdL l)).length := by rw [bnds_len]; exact hbl
  have hY2 : 2 ≤ (bnds 1 (bhdL l)).length := by rw [bnds_len]; exact hbl
  have hZ2 : 2 ≤ (bnds 2 (bhdL l)).length := by rw [bnds_len]; exact hbl
  have hrm0 := Lib.hid (fun w' u (h : Bnds w' u (bnds 0 (bhdL l))) => rims_any u _ w' h (bnds_ok (ax := 0)) (bnds_small 0 l))
  have hrm1 := Lib.hid (fun w' u (h : Bnds w' u (bnds 1 (bhdL l))) => rims_any u _ w' h (bnds_ok (ax := 1)) (bnds_small 1 l))
  have hrm2 := Lib.hid (fun w' u (h : Bnds w' u (bnds 2 (bhdL l))) => rims_any u _ w' h (bnds_ok (ax := 2)) (bnds_small 2 l))
  have hen := Lib.hid (fun v1 v2 t w' (h1 : Lns w' v1 (lows (bnds 0 (bhdL l)))) (h2 : Lns w' v2 (upps (bnds 0 (bhdL l)))) (t1 : -10 ≤ t) (t2 : t ≤ 5000) => enclose_rims (bnds_ok (ax := 0)) (bnds_rise 0 l) hX2 v1 v2 t w' h1 h2 t1 t2)
  obtain ⟨n, hn⟩ : ∃ n, (bhdL l).length = n + 1 := ⟨(bhdL l).length - 1, by omega⟩
  have hn64 : n ≤ 63 := by have := bhd_len l; omega
  obtain ⟨s, hs⟩ := some_of' (l := bhdL l) (i := n) (by omega)
  have hlast : lastB (bnds 0 (bhdL l)) = bX s := lastB_bnds (by rw [hn]; simpa using hs)
  obtain ⟨⟨s1, s2⟩, ⟨s3, s4⟩, _, _, s5, s6⟩ := okS_iff.1 (bhd_ok s (List.mem_of_getElem? hs))
  have hf0 : fitsB (bnds 0 (bhdL l)) = true := by unfold posB at hp; simp only [Bool.and_eq_true] at hp; exact hp.1
  have hl0 : 0 < (lastB (bnds 0 (bhdL l))).2.1 := by omega
  have hh0 : hiR (bnds 0 (bhdL l)) ((lastB (bnds 0 (bhdL l))).1 + 400) ((lastB (bnds 0 (bhdL l))).1 + 400) < 0 := by omega
  obtain ⟨⟨f1, f2, f3, f4⟩, f5, f6, f7⟩ := crs_k (bnds_rise 0 l) (bnds_ok (ax := 0)) hX2 hf0 hl0 hh0
  have hT1 : cT1 l = s.1 + crsF (bnds 0 (bhdL l)) - 1 := by unfold cT1; rw [hlast]; rfl
  have hT2 : cT2 l = s.1 + crsL (bnds 0 (bhdL l)) + 1 := by unfold cT2; rw [hlast]; rfl
  have hlt1 : (lastB (bnds 0 (bhdL l))).1 = s.1 := by rw [hlast]; rfl
  have hlt2 : (lastB (bnds 0 (bhdL l))).2.1 = s.2.1 - s.2.2.2.2 := by rw [hlast]; rfl
  rw [hlt2] at hl0
  rw [hlt1] at f1 f4 f5 f7 hh0
  have b1 : -10 ≤ cT1 l := by omega
  have b2 : cT1 l ≤ 5000 := by omega
  have b3 : -10 ≤ cT2 l := by omega
  have b4 : cT2 l ≤ 5000 := by omega
  have hdu1 := Lib.hid (fun v1 v2 w' (h1 : Lns w' v1 (lows (bnds 1 (bhdL l)))) (h2 : Lns w' v2 (upps (bnds 1 (bhdL l)))) => during_rims (bnds_ok (ax := 1)) (bnds_rise 1 l) hY2 v1 v2 (cT1 l) (cT2 l) w' h1 h2 b1 b2 b3 b4)
  have hdu2 := Lib.hid (fun v1 v2 w' (h1 : Lns w' v1 (lows (bnds 2 (bhdL l)))) (h2 : Lns w' v2 (upps (bnds 2 (bhdL l)))) => during_rims (bnds_ok (ax := 2)) (bnds_rise 2 l) hZ2 v1 v2 (cT1 l) (cT2 l) w' h1 h2 b1 b2 b3 b4)
  obtain ⟨z1, z2⟩ := loR_bd (bnds_ok (ax := 2) (l := l)) (bnds_rise 2 l) b1 b2 b3 b4
  obtain ⟨z3, z4⟩ := hiR_bd (bnds_ok (ax := 2) (l := l)) (bnds_rise 2 l) b1 b2 b3 b4
  have hfa := Lib.hid (fun w' => fallen_any (loR (bnds 2 (bhdL l)) (cT1 l) (cT2 l)) (hiR (bnds 2 (bhdL l)) (cT1 l) (cT2 l)) (cT1 l) (cT2 l) w' z1 z2 z3 z4 b1 b2 b3 b4)
  unfold falV at hfa
  have hS := Lib.hid hs
  have hEn := Lib.hid (fun v1 v2 w' (h1 : Lns w' v1 (lows (bnds 0 (bhdL l)))) (h2 : Lns w' v2 (upps (bnds 0 (bhdL l)))) => hen.out v1 v2 (s.1 + 400) w' h1 h2 (by omega) (by omega))
  generalize fallLo (loR (bnds 2 (bhdL l)) (cT1 l) (cT2 l)) (hiR (bnds 2 (bhdL l)) (cT1 l) (cT2 l)) (cT1 l) (cT2 l) = zl at *
  generalize fallHi (loR (bnds 2 (bhdL l)) (cT1 l) (cT2 l)) (hiR (bnds 2 (bhdL l)) (cT1 l) (cT2 l)) (cT1 l) (cT2 l) = zh at *
  generalize loR (bnds 2 (bhdL l)) (cT1 l) (cT2 l) = zlo at *
  generalize hiR (bnds 2 (bhdL l)) (cT1 l) (cT2 l) = zhi at *
  generalize loR (bnds 1 (bhdL l)) (cT1 l) (cT2 l) = ylo at *
  generalize hiR (bnds 1 (bhdL l)) (cT1 l) (cT2 l) = yhi at *
  generalize cT1 l = ta at *
  generalize cT2 l = tb at *
  generalize crsF (bnds 0 (bhdL l)) = kF at *
  generalize crsL (bnds 0 (bhdL l)) = kL at *
  clear hb hp hc h4 hE0 e0 hs hlast hX2 hY2 hZ2 hf0 hlt1 hlt2 z1 z2 z3 z4
  generalize bnds 0 (bhdL l) = X at *
  generalize bnds 1 (bhdL l) = Y at *
  generalize bnds 2 (bhdL l) = Z at *
  generalize hq : bhdL l = S at *
  clear hq
  have F1 := Lib.hid f1
  have F4 := Lib.hid f4
  have F5 := Lib.hid f5
  have F7 := Lib.hid f7
  have HT1 := Lib.hid hT1
  have HT2 := Lib.hid hT2
  clear f1 f4 f5 f7 hT1 hT2
  generalize hA : loR X (s.1 + 400) (s.1 + 400) = A at hEn
  generalize hB : hiR X (s.1 + 400) (s.1 + 400) = B at hEn hh0
  clear hA hB
  go_enter Try.func38, Try.ntmps38
  go_wp2_with (first
    | ((go_at_call 20; refine (hpos.out _ (h.below (by repeat (first | with_reducible exact Below.refl _ _ | with_reducible assumption | with_reducible refine Below.drew ?_ | with_reducible refine Below.setCell ?_ (by first | omega | (simp; omega) | simp) _ | with_reducible refine Below.alloc ?_ (by first | omega | (simp; omega) | simp) _ | with_reducible refine Below.trans ?_ (Below.mono (by with_reducible assumption) (by first | omega | (simp; omega) | simp)))))).mono ?_; rintro e w1 ⟨rfl, hb1⟩; have hK : Below w.heap.size w w1 := Below.next1 (Below.refl _ _) (Nat.le_refl _) hb1; have hR := heap_old hb1 (heap_new w (.cells #[.int .i64 0, .int .i64 0, .int .i64 0, .int .i64 0, .int .i64 0, .int .i64 0] 70) rfl); clear hb1; (have r0 := cell_heap (o := 0) hR rfl; have r1 := cell_heap (o := 1) hR rfl; have r2 := cell_heap (o := 2) hR rfl; have r3 := cell_heap (o := 3) hR rfl; have r4 := cell_heap (o := 4) hR rfl; have r5 := cell_heap (o := 5) hR rfl; have z0 := frozen_heap (o := 0) hR; have z1 := frozen_heap (o := 1) hR; have z2 := frozen_heap (o := 2) hR; have z3 := frozen_heap (o := 3) hR; have z4 := frozen_heap (o := 4) hR; have z5 := frozen_heap (o := 5) hR)))
    | ((go_at_call 55; refine (hbeh.out _ (h.below hK)).mono ?_; rintro e w2 ⟨⟨u, rfl, hu⟩, hb2⟩; have hu2 := hu (by first | rfl | trivial); clear hu; replace hK := Below.next hK (Nat.le_refl _) hb2; replace hR := heap_old hb2 hR; clear hb2; (clear r0 r1 r2 r3 r4 r5 z0 z1 z2 z3 z4 z5); (have r0 := cell_heap (o := 0) hR rfl; have r1 := cell_heap (o := 1) hR rfl; have r2 := cell_heap (o := 2) hR rfl; have r3 := cell_heap (o := 3) hR rfl; have r4 := cell_heap (o := 4) hR rfl; have r5 := cell_heap (o := 5) hR rfl; have z0 := frozen_heap (o := 0) hR; have z1 := frozen_heap (o := 1) hR; have z2 := frozen_heap (o := 2) hR; have z3 := frozen_heap (o := 3) hR; have z4 := frozen_heap (o := 4) hR; have z5 := frozen_heap (o := 5) hR)))
    | ((go_at_call 78; refine (hcr.out _ _ hu2).mono ?_; rintro e w3 ⟨rfl, hb3⟩; have hu3 := hu2.below hb3; replace hK := Below.next hK (Nat.le_refl _) hb3; replace hR := heap_old hb3 hR; clear hb3 hu2; (clear r0 r1 r2 r3 r4 r5 z0 z1 z2 z3 z4 z5); (have r0 := cell_heap (o := 0) hR rfl; have r1 := cell_heap (o := 1) hR rfl; have r2 := cell_heap (o := 2) hR rfl; have r3 := cell_heap (o := 3) hR rfl; have r4 := cell_heap (o := 4) hR rfl; have r5 := cell_heap (o := 5) hR rfl; have z0 := frozen_heap (o := 0) hR; have z1 := frozen_heap (o := 1) hR; have z2 := frozen_heap (o := 2) hR; have z3 := frozen_heap (o := 3) hR; have z4 := frozen_heap (o := 4) hR; have z5 := frozen_heap (o := 5) hR); have hu4 := hu3; obtain ⟨pa, b, o, cap, rfl, g1, g2, g3, g4⟩ := hu4; obtain rfl := g1 (by omega); obtain ⟨c0, c1, c2, c3, c4⟩ := g4 n s hS.out; clear g4; rw [hn] at g2 hu3 ⊢))
    | (go_at_call 57; refine (hbd0.out _ _ (hu3.below (by repeat (first | with_reducible exact Below.refl _ _ | with_reducible assumption | with_reducible refine Below.drew ?_ | with_reducible refine Below.setCell ?_ (by first | omega | (simp; omega) | simp) _ | with_reducible refine Below.alloc ?_ (by first | omega | (simp; omega) | simp) _ | with_reducible refine Below.trans ?_ (Below.mono (by with_reducible assumption) (by first | omega | (simp; omega) | simp)))))).mono ?_; rintro e w4 ⟨x, rfl, hx, hb4⟩; have hu5 := (hu3.below (Below.alloc (Below.refl _ _) (Nat.le_refl _) ((.cells #[.int .i64 s.1, .int .i64 s.2.1, .int .i64 s.2.2.1, .int .i64 s.2.2.2.1, .int .i64 s.2.2.2.2] 38)))).below hb4; replace hR := heap_old hb4 (heap_alloc hR); have hT := heap_old hb4 (heap_new w3 (.cells #[.int .i64 s.1, .int .i64 s.2.1, .int .i64 s.2.2.1, .int .i64 s.2.2.2.1, .int .i64 s.2.2.2.2] 38) rfl); have hLt := (Array.getElem?_eq_some_iff.1 hT).1; replace hK := Below.next1 hK (Nat.le_refl _) hb4; clear hb4)
    | (go_at_call 69; refine (hrm0.out _ _ hx).mono ?_; rintro e w5 ⟨y1, y2, rfl, hy1, hy2, hb5⟩; have hu6 := hu5.below hb5; replace hR := heap_old hb5 hR; replace hT := heap_old hb5 hT; replace hK := Below.next hK (Nat.le_refl _) hb5; clear hb5; (clear r0 r1 r2 r3 r4 r5 z0 z1 z2 z3 z4 z5); (have r0 := cell_heap (o := 0) hR rfl; have r1 := cell_heap (o := 1) hR rfl; have r2 := cell_heap (o := 2) hR rfl; have r3 := cell_heap (o := 3) hR rfl; have r4 := cell_heap (o := 4) hR rfl; have r5 := cell_heap (o := 5) hR rfl; have z0 := frozen_heap (o := 0) hR; have z1 := frozen_heap (o := 1) hR; have z2 := frozen_heap (o := 2) hR; have z3 := frozen_heap (o := 3) hR; have z4 := frozen_heap (o := 4) hR; have z5 := frozen_heap (o := 5) hR); have t0 := cell_heap (o := 0) hT rfl; have t1 := cell_heap (o := 1) hT rfl; have t4 := cell_heap (o := 4) hT rfl)
    | (go_at_call 70; refine (hEn.out _ _ _ hy1 hy2).mono ?_; rintro e w6 ⟨rfl, hb6⟩; have hu7 := hu6.below hb6; replace hy1 := hy1.below hb6; replace hy2 := hy2.below hb6; replace hR := heap_old hb6 hR; replace hT := heap_old hb6 hT; replace hK := Below.next hK (Nat.le_refl _) hb6; clear hb6; (clear r0 r1 r2 r3 r4 r5 z0 z1 z2 z3 z4 z5); (have r0 := cell_heap (o := 0) hR rfl; have r1 := cell_heap (o := 1) hR rfl; have r2 := cell_heap (o := 2) hR rfl; have r3 := cell_heap (o := 3) hR rfl; have r4 := cell_heap (o := 4) hR rfl; have r5 := cell_heap (o := 5) hR rfl; have z0 := frozen_heap (o := 0) hR; have z1 := frozen_heap (o := 1) hR; have z2 := frozen_heap (o := 2) hR; have z3 := frozen_heap (o := 3) hR; have z4 := frozen_heap (o := 4) hR; have z5 := frozen_heap (o := 5) hR); clear t0 t1 t4; have t0 := cell_heap (o := 0) hT rfl; have hltT := (Array.getElem?_eq_some_iff.1 hT).1))
  have hKc := hK.alloc hK.size (.cells #[.int .i64 0, .int .i64 0, .int .i64 0, .int .i64 0, .int .i64 0, .int .i64 0] 70)
  have hAl : Below w6.heap.size w6 (w6.alloc (.cells #[.int .i64 0, .int .i64 0, .int .i64 0, .int .i64 0, .int .i64 0, .int .i64 0] 70)) := Below.alloc (Below.refl _ _) (Nat.le_refl _) _
  have hC0 := heap_new w6 (.cells #[.int .i64 0, .int .i64 0, .int .i64 0, .int .i64 0, .int .i64 0, .int .i64 0] 70) rfl
  (clear r0 r1 r2 r3 r4 r5 z0 z1 z2 z3 z4 z5)
  clear t0 hltT
  go_loopw [13, 14] (fun f x wr => ∃ k : Nat, k ≤ 401 ∧ x = .int .i64 (s.1 + k) ∧ f = .bool (decide (kF < k)) ∧ Below w6.heap.size w6 wr ∧ ∃ lv hv : Int, (kF < k → lv = ta) ∧ (kL < k → hv = tb) ∧ wr.heap[w6.heap.size]? = some (.cells #[.int .i64 lv, .int .i64 hv, .int .i64 0, .int .i64 0, .int .i64 0, .int .i64 0] 70)) (fun _ x _ => 401 - (intOf x - s.1).toNat)
  case atStart => exact ⟨0, by omega, by simp, by simp, hAl, 0, 0, fun h => absurd h (by omega), fun h => absurd h (by omega), hC0⟩
  case round =>
    obtain ⟨k, hk, rfl, rfl, hb0, lv, hv, hl, hh, hC⟩ := hrel
    have hKr := Below.next hK (Nat.le_refl _) hb0
    have hRr := heap_old hb0 hR
    have hTr := heap_old hb0 hT
    have hy1r := hy1.below hb0
    have hy2r := hy2.below hb0
    have hur := hu7.below hb0
    have hszr := hb0.size
    have hltT := (Array.getElem?_eq_some_iff.1 hTr).1
    have t0 := cell_heap (o := 0) hTr rfl
    have hRC : w.heap.size ≠ w6.heap.size := Nat.ne_of_lt (Array.getElem?_eq_some_iff.1 hR).1
    have hltC := (Array.getElem?_eq_some_iff.1 hC).1
    rcases Nat.lt_or_ge k 401 with hlt | hge
    · have hX := Lib.hid (fun w' (h1 : Lns w' y1 (lows X)) (h2 : Lns w' y2 (upps X)) => hen.out y1 y2 (s.1 + k) w' h1 h2 (by omega) (by omega))
      have G1 := Lib.hid (fun h : kF = k => by have := F1.out; rwa [h] at this)
      have G4 := Lib.hid (fun h : k < kF => F4.out k h)
      have G5 := Lib.hid (fun h : kL = k => by have := F5.out; rwa [h] at this)
      have G7 := Lib.hid (fun h : kL < k => F7.out k h (by omega))
      have HL := Lib.hid hl
      have HH := Lib.hid hh
      have hm : 401 - (s.1 + (k : Int) + 1 - s.1).toNat < 401 - (s.1 + (k : Int) - s.1).toNat := by omega
      clear hl hh
      generalize loR X (s.1 + k) (s.1 + k) = A at *
      generalize hiR X (s.1 + k) (s.1 + k) = B at *
      generalize hbc : w6.heap.size = bc at *
      go_wp2_with (go_at_call 70; refine (hX.out _ hy1r hy2r).mono ?_; rintro e w7 ⟨rfl, hb7⟩; have hC7 := heap_alloc (X := .cells #[.int .i64 A, .int .i64 B] 34) (heap_old hb7 hC); have hk7 := hb7.size; have hB7 := Below.next hb0 (Nat.le_of_eq hbc.symm) hb7; (have q0 := cell_heap (o := 0) hC7 rfl; have q1 := cell_heap (o := 1) hC7 rfl; have p0 := frozen_heap (o := 0) hC7; have p1 := frozen_heap (o := 1) hC7))
      all_goals
        have g1 := G1.out
        have g4 := G4.out
        have g5 := G5.out
        have g7 := G7.out
        have hl := HL.out
        have hh := HH.out
        have ht1 := HT1.out
        have ht2 := HT2.out
        clear G1 G4 G5 G7 HL HH HT1 HT2
        try have hq1 := nd_t (p := kF < k) (by assumption)
        try have hq2 := nd_f (p := kF < k) (by assumption)
        refine ⟨⟨k + 1, by omega, by rw [show s.1 + (k : Int) + 1 = s.1 + ((k + 1 : Nat) : Int) by omega], ?_, (by repeat (first | with_reducible exact Below.refl _ _ | with_reducible assumption | with_reducible refine Below.drew ?_ | with_reducible refine Below.setCell ?_ (by first | omega | (simp; omega) | simp) _ | with_reducible refine Below.alloc ?_ (by first | omega | (simp; omega) | simp) _ | with_reducible refine Below.trans ?_ (Below.mono (by with_reducible assumption) (by first | omega | (simp; omega) | simp)))), ?_⟩, by simpa [intOf] using hm⟩
        · first
          | exact congrArg Value.bool (decide_eq_true (by omega)).symm
          | (refine congrArg Value.bool ?_; rw [Bool.eq_iff_iff]; simp only [decide_eq_true_eq]; omega)
        · first
          | exact ⟨_, _, by omega, by omega, hC7⟩
          | (have H := heap_set (o := 0) (v := .int .i64 (s.1 + k - 1)) hC7; simp only [List.setIfInBounds_toArray, List.set_cons_succ, List.set_cons_zero] at H; exact ⟨_, _, by omega, by omega, H⟩)
          | (have H := heap_set (o := 1) (v := .int .i64 (s.1 + k + 1)) hC7; simp only [List.setIfInBounds_toArray, List.set_cons_succ, List.set_cons_zero] at H; exact ⟨_, _, by omega, by omega, H⟩)
          | (have H := heap_set (o := 1) (v := .int .i64 (s.1 + k + 1)) (heap_set (o := 0) (v := .int .i64 (s.1 + k - 1)) hC7); simp only [List.setIfInBounds_toArray, List.set_cons_succ, List.set_cons_zero] at H; exact ⟨_, _, by omega, by omega, H⟩)
    · obtain rfl : k = 401 := by omega
      obtain rfl := hl (by omega)
      obtain rfl := hh (by omega)
      have hM := hb0
      clear hb0 hltC hh0 hEn hen F1 F4 F5 F7 HT1 HT2
      (have q0 := cell_heap (o := 0) hC rfl; have q1 := cell_heap (o := 1) hC rfl; have q2 := cell_heap (o := 2) hC rfl; have q3 := cell_heap (o := 3) hC rfl; have q4 := cell_heap (o := 4) hC rfl; have q5 := cell_heap (o := 5) hC rfl; have p0 := frozen_heap (o := 0) hC; have p1 := frozen_heap (o := 1) hC; have p2 := frozen_heap (o := 2) hC; have p3 := frozen_heap (o := 3) hC; have p4 := frozen_heap (o := 4) hC; have p5 := frozen_heap (o := 5) hC)
      go_wp2_with (first
        | (go_at_call_of 57 (Value.int IntKind.i64 1); refine (hbd1.out _ _ hur).mono ?_; rintro e w8 ⟨x8, rfl, hx8, hb8⟩; have hu8 := hur.below hb8; replace hKr := Below.next hKr (Nat.le_refl _) hb8; replace hM := Below.next hM (Nat.le_refl _) hb8; have hC8 := heap_old hb8 hC; have hR8 := heap_old hb8 hRr; clear hb8)
        | (go_at_call_of 69 (x8); refine (hrm1.out _ _ hx8).mono ?_; rintro e w9 ⟨u1, u2, rfl, hu1, hu2, hb9⟩; have hu9 := hu8.below hb9; replace hKr := Below.next hKr (Nat.le_refl _) hb9; replace hM := Below.next hM (Nat.le_refl _) hb9; have hC9 := heap_old hb9 hC8; have hR9 := heap_old hb9 hR8; clear hb9 hC8 hR8 hu8; (clear q0 q1 q2 q3 q4 q5 p0 p1 p2 p3 p4 p5); (have q0 := cell_heap (o := 0) hC9 rfl; have q1 := cell_heap (o := 1) hC9 rfl; have q2 := cell_heap (o := 2) hC9 rfl; have q3 := cell_heap (o := 3) hC9 rfl; have q4 := cell_heap (o := 4) hC9 rfl; have q5 := cell_heap (o := 5) hC9 rfl; have p0 := frozen_heap (o := 0) hC9; have p1 := frozen_heap (o := 1) hC9; have p2 := frozen_heap (o := 2) hC9; have p3 := frozen_heap (o := 3) hC9; have p4 := frozen_heap (o := 4) hC9; have p5 := frozen_heap (o := 5) hC9))
        | (go_at_call_of 79 (u1); refine (hdu1.out _ _ _ hu1 hu2).mono ?_; rintro e w10 ⟨rfl, hb10⟩; have hu10 := hu9.below hb10; replace hKr := Below.next hKr (Nat.le_refl _) hb10; replace hM := Below.next hM (Nat.le_refl _) hb10; have hC10 := heap_old hb10 hC9; have hR10 := heap_old hb10 hR9; clear hb10 hC9 hR9 hu9; (clear q0 q1 q2 q3 q4 q5 p0 p1 p2 p3 p4 p5); (have q0 := cell_heap (o := 0) hC10 rfl; have q1 := cell_heap (o := 1) hC10 rfl; have q2 := cell_heap (o := 2) hC10 rfl; have q3 := cell_heap (o := 3) hC10 rfl; have q4 := cell_heap (o := 4) hC10 rfl; have q5 := cell_heap (o := 5) hC10 rfl; have p0 := frozen_heap (o := 0) hC10; have p1 := frozen_heap (o := 1) hC10; have p2 := frozen_heap (o := 2) hC10; have p3 := frozen_heap (o := 3) hC10; have p4 := frozen_heap (o := 4) hC10; have p5 := frozen_heap (o := 5) hC10))
        | (go_at_call_of 57 (Value.int IntKind.i64 2); have hM2 := Below.setCell (Below.setCell hM (Nat.le_refl _) (.int .i64 ylo) (p := ⟨w6.heap.size, 2, none⟩)) (Nat.le_refl _) (.int .i64 yhi) (p := ⟨w6.heap.size, 3, none⟩); have hK2 := Below.setCell (Below.setCell hKr hK.size (.int .i64 ylo) (p := ⟨w6.heap.size, 2, none⟩)) hK.size (.int .i64 yhi) (p := ⟨w6.heap.size, 3, none⟩); have hC2 := heap_set (o := 3) (v := .int .i64 yhi) (heap_set (o := 2) (v := .int .i64 ylo) hC10); simp only [List.setIfInBounds_toArray, List.set_cons_succ, List.set_cons_zero] at hC2; have hR2 := heap_set_other (g := w6.heap.size) (o := 3) (v := .int .i64 yhi) (heap_set_other (g := w6.heap.size) (o := 2) (v := .int .i64 ylo) hR10 hRC) hRC; refine (hbd2.out _ _ (hu7.below hM2)).mono ?_; rintro e w11 ⟨x11, rfl, hx11, hb11⟩; replace hK2 := Below.next hK2 (Nat.le_refl _) hb11; replace hM2 := Below.next hM2 (Nat.le_refl _) hb11; replace hC2 := heap_old hb11 hC2; replace hR2 := heap_old hb11 hR2; clear hb11 hC10 hR10 hu10; (clear q0 q1 q2 q3 q4 q5 p0 p1 p2 p3 p4 p5))
        | (go_at_call_of 69 (x11); refine (hrm2.out _ _ hx11).mono ?_; rintro e w12 ⟨u3, u4, rfl, hu3', hu4', hb12⟩; replace hK2 := Below.next hK2 (Nat.le_refl _) hb12; replace hM2 := Below.next hM2 (Nat.le_refl _) hb12; replace hC2 := heap_old hb12 hC2; replace hR2 := heap_old hb12 hR2; clear hb12))
      apply region_gen 13 [] [0, 1, 2, 3, 4, 5, 6, 7, 8, 9, 10, 11, 12] [13]; (case hm => kernel_rfl); (case hS => rfl); (case hF => kernel_rfl); (case hB => kernel_rfl); (case hQ => exact fun _ _ _ _ _ h => h); (case f => (exact rfl)); (case hz => exact rfl); (case h => (intro LQ hLQ W1 hW1; have hC3 := heap_old hW1 hC2; have q0 := cell_heap (o := 0) hC3 rfl; have q1 := cell_heap (o := 1) hC3 rfl; have hl3 := hu3'.below hW1; have hl4 := hu4'.below hW1; simp only [pickO, List.drop_succ_cons, List.drop_zero, List.take_succ_cons, List.take_zero, List.cons_append, List.nil_append, List.append_nil, Act.put, List.setIfInBounds_toArray, List.set_cons_succ, List.set_cons_zero]; have hl := @Later.cell; (repeat (go_big_quiet_step (first | (go_at_call 79; exact Calls.later (hdu2.out _ _ _ (hl3.below (later_below _)) (hl4.below (later_below _)))) | (go_at_call 58; exact Calls.later (hfa.out _))))); exact wpQuiet_nil hLQ)); (intro W2 hW2; simp only [pickO, List.drop_succ_cons, List.drop_zero, List.take_succ_cons, List.take_zero, List.cons_append, List.nil_append, List.append_nil, Act.put, List.setIfInBounds_toArray, List.set_cons_succ, List.set_cons_zero])
      have hC4 := heap_old hW2 hC2
      have hR4 := heap_old hW2 hR2
      have hK4 := Below.next hK2 (Nat.le_refl _) hW2
      (have q0 := cell_heap (o := 0) hC4 rfl; have q1 := cell_heap (o := 1) hC4 rfl; have q2 := cell_heap (o := 2) hC4 rfl; have q3 := cell_heap (o := 3) hC4 rfl; have q4 := cell_heap (o := 4) hC4 rfl; have q5 := cell_heap (o := 5) hC4 rfl; have p0 := frozen_heap (o := 0) hC4; have p1 := frozen_heap (o := 1) hC4; have p2 := frozen_heap (o := 2) hC4; have p3 := frozen_heap (o := 3) hC4; have p4 := frozen_heap (o := 4) hC4; have p5 := frozen_heap (o := 5) hC4)
      (have r0 := cell_heap (o := 0) hR4 rfl; have r1 := cell_heap (o := 1) hR4 rfl; have r2 := cell_heap (o := 2) hR4 rfl; have r3 := cell_heap (o := 3) hR4 rfl; have r4 := cell_heap (o := 4) hR4 rfl; have r5 := cell_heap (o := 5) hR4 rfl; have z0 := frozen_heap (o := 0) hR4; have z1 := frozen_heap (o := 1) hR4; have z2 := frozen_heap (o := 2) hR4; have z3 := frozen_heap (o := 3) hR4; have z4 := frozen_heap (o := 4) hR4; have z5 := frozen_heap (o := 5) hR4)
      have hK5 := Below.setCell (Below.setCell hK4 hK.size (.int .i64 zl) (p := ⟨w6.heap.size, 4, none⟩)) hK.size (.int .i64 zh) (p := ⟨w6.heap.size, 5, none⟩)
      have hR5 := heap_set_other (g := w6.heap.size) (o := 5) (v := .int .i64 zh) (heap_set_other (g := w6.heap.size) (o := 4) (v := .int .i64 zl) hR4 hRC) hRC
      go_wp2_with fail
      have hE := heap_set (o := 5) (v := .int .i64 zh) (heap_set (o := 4) (v := .int .i64 zl) (heap_set (o := 3) (v := .int .i64 yhi) (heap_set (o := 2) (v := .int .i64 ylo) (heap_set (o := 1) (v := .int .i64 hv) (heap_set (o := 0) (v := .int .i64 lv) hR5)))))
      simp only [List.setIfInBounds_toArray, List.set_cons_succ, List.set_cons_zero] at hE
      have k0 := cell_heap (o := 0) hE rfl
      have k1 := cell_heap (o := 1) hE rfl
      have k2 := cell_heap (o := 2) hE rfl
      have k3 := cell_heap (o := 3) hE rfl
      have k4 := cell_heap (o := 4) hE rfl
      have k5 := cell_heap (o := 5) hE rfl
      refine bodyPost_ret (v := .tuple #[.agg #[.int .i64 lv, .int .i64 hv, .int .i64 ylo, .int .i64 yhi, .int .i64 zl, .int .i64 zh], .int .i64 0]) (by simp only [results, Try.results38]; go_simp) rfl ⟨rfl, ?_⟩
      exact Below.setCell (Below.setCell (Below.setCell (Below.setCell (Below.setCell (Below.setCell hK5 (Nat.le_refl _) _) (Nat.le_refl _) _) (Nat.le_refl _) _) (Nat.le_refl _) _) (Nat.le_refl _) _) (Nat.le_refl _) _
theorem cross_any (v : Value) (l : List SN) (w : World) (h : Seens w v l) : Calls Try.prog 38 #[v] w fun e w' => e = .returned (crsV l) ∧ Below w.heap.size w w' := by
  by_cases hb : behE l = 0
  · cases hp : posB l with
    | false => exact cross_bad v l w h (posOk_bad hb hp)
    | true =>
      cases hc : comes (bnds 0 (bhdL l)) with
      | false => exact cross_order v l w h hb hp hc
      | true =>
        by_cases h4 : (lastB (bnds 0 (bhdL l))).2.1 ≤ 0 ∨ 0 ≤ hiR (bnds 0 (bhdL l)) ((lastB (bnds 0 (bhdL l))).1 + 400) ((lastB (bnds 0 (bhdL l))).1 + 400)
        · exact cross_none v l w h hb hp hc h4
        · exact cross_good v l w h hb hp hc h4
  · exact cross_bad v l w h (posOk_beh hb)
end Go.Proofs.Ytmdledlbkdcmnaa
