/-
  Contracts and laws, merged: RCross PathLaws3.
  Conditions: none.
-/
import Derived.Test.YtmdledlbkdcmnaaM10
import Derived.Test.YtmdledlbkdcmnaaM7
set_option linter.unusedSimpArgs false
set_option linter.unusedVariables false
/-
  Contract of the reference's Cross.
  Conditions: none.
-/
namespace Go.Proofs.Ytmdledlbkdcmnaa
open Go.RowKit
set_option linter.unusedSimpArgs false
set_option maxRecDepth 100000 in
set_option maxHeartbeats 8000000 in
theorem rcross_bad (v : Value) (l : List SN) (w : World) (h : Seens w v l) (hp : posOk l = false) : Calls Try.prog 39 #[v] w fun e w' => e = .returned (crsV l) ∧ Below w.heap.size w w' := by
  have hpos := Lib.hid (fun w' (h : Seens w' v l) => by have := rpos_any v l w' h; unfold posV at this; rwa [hp] at this)
  by_cases hb : behE l = 0
  · have hpb : posB l = false := by
      unfold posOk at hp; rw [hb] at hp; simpa using hp
    rw [crsV_bad (crsE_pos hb hpb) (by omega)]
    rw [hb] at hpos
    clear hp hpb hb
    go_enter Try.func39, Try.ntmps39
    go_wp2_with ((go_at_call 32; refine (hpos.out _ (h.below (by repeat (first | with_reducible exact Below.refl _ _ | with_reducible assumption | with_reducible refine Below.drew ?_ | with_reducible refine Below.setCell ?_ (by first | omega | (simp; omega) | simp) _ | with_reducible refine Below.alloc ?_ (by first | omega | (simp; omega) | simp) _ | with_reducible refine Below.trans ?_ (Below.mono (by with_reducible assumption) (by first | omega | (simp; omega) | simp)))))).mono ?_; rintro e w1 ⟨rfl, hb1⟩; have hK : Below w.heap.size w w1 := Below.next1 (Below.refl _ _) (Nat.le_refl _) hb1; have hR := heap_old hb1 (heap_new w (.cells #[.int .i64 0, .int .i64 0, .int .i64 0, .int .i64 0, .int .i64 0, .int .i64 0] 70) rfl); clear hb1; (have r0 := cell_heap (o := 0) hR rfl; have r1 := cell_heap (o := 1) hR rfl; have r2 := cell_heap (o := 2) hR rfl; have r3 := cell_heap (o := 3) hR rfl; have r4 := cell_heap (o := 4) hR rfl; have r5 := cell_heap (o := 5) hR rfl; have z0 := frozen_heap (o := 0) hR; have z1 := frozen_heap (o := 1) hR; have z2 := frozen_heap (o := 2) hR; have z3 := frozen_heap (o := 3) hR; have z4 := frozen_heap (o := 4) hR; have z5 := frozen_heap (o := 5) hR)))
    have hE := heap_set (o := 5) (v := .int .i64 0) (heap_set (o := 4) (v := .int .i64 0) (heap_set (o := 3) (v := .int .i64 0) (heap_set (o := 2) (v := .int .i64 0) (heap_set (o := 1) (v := .int .i64 0) (heap_set (o := 0) (v := .int .i64 0) hR))))); simp only [List.setIfInBounds_toArray, List.set_cons_succ, List.set_cons_zero] at hE; have k0 := cell_heap (o := 0) hE rfl; have k1 := cell_heap (o := 1) hE rfl; have k2 := cell_heap (o := 2) hE rfl; have k3 := cell_heap (o := 3) hE rfl; have k4 := cell_heap (o := 4) hE rfl; have k5 := cell_heap (o := 5) hE rfl
    refine bodyPost_ret (v := .tuple #[.agg #[.int .i64 0, .int .i64 0, .int .i64 0, .int .i64 0, .int .i64 0, .int .i64 0], .int .i64 13]) (by simp only [results, Try.results39]; go_simp) rfl ⟨rfl, (by repeat (first | with_reducible exact Below.refl _ _ | with_reducible assumption | with_reducible refine Below.drew ?_ | with_reducible refine Below.setCell ?_ (by first | omega | (simp; omega) | simp) _ | with_reducible refine Below.alloc ?_ (by first | omega | (simp; omega) | simp) _ | with_reducible refine Below.trans ?_ (Below.mono (by with_reducible assumption) (by first | omega | (simp; omega) | simp))))⟩
  · rw [crsV_bad (crsE_beh hb) hb]
    have hb' : (behE l != 0) = true := by simpa using hb
    clear hp hb
    generalize behE l = E at *
    go_enter Try.func39, Try.ntmps39
    go_wp2_with ((go_at_call 32; refine (hpos.out _ (h.below (by repeat (first | with_reducible exact Below.refl _ _ | with_reducible assumption | with_reducible refine Below.drew ?_ | with_reducible refine Below.setCell ?_ (by first | omega | (simp; omega) | simp) _ | with_reducible refine Below.alloc ?_ (by first | omega | (simp; omega) | simp) _ | with_reducible refine Below.trans ?_ (Below.mono (by with_reducible assumption) (by first | omega | (simp; omega) | simp)))))).mono ?_; rintro e w1 ⟨rfl, hb1⟩; have hK : Below w.heap.size w w1 := Below.next1 (Below.refl _ _) (Nat.le_refl _) hb1; have hR := heap_old hb1 (heap_new w (.cells #[.int .i64 0, .int .i64 0, .int .i64 0, .int .i64 0, .int .i64 0, .int .i64 0] 70) rfl); clear hb1; (have r0 := cell_heap (o := 0) hR rfl; have r1 := cell_heap (o := 1) hR rfl; have r2 := cell_heap (o := 2) hR rfl; have r3 := cell_heap (o := 3) hR rfl; have r4 := cell_heap (o := 4) hR rfl; have r5 := cell_heap (o := 5) hR rfl; have z0 := frozen_heap (o := 0) hR; have z1 := frozen_heap (o := 1) hR; have z2 := frozen_heap (o := 2) hR; have z3 := frozen_heap (o := 3) hR; have z4 := frozen_heap (o := 4) hR; have z5 := frozen_heap (o := 5) hR)))
    have hE := heap_set (o := 5) (v := .int .i64 0) (heap_set (o := 4) (v := .int .i64 0) (heap_set (o := 3) (v := .int .i64 0) (heap_set (o := 2) (v := .int .i64 0) (heap_set (o := 1) (v := .int .i64 0) (heap_set (o := 0) (v := .int .i64 0) hR))))); simp only [List.setIfInBounds_toArray, List.set_cons_succ, List.set_cons_zero] at hE; have k0 := cell_heap (o := 0) hE rfl; have k1 := cell_heap (o := 1) hE rfl; have k2 := cell_heap (o := 2) hE rfl; have k3 := cell_heap (o := 3) hE rfl; have k4 := cell_heap (o := 4) hE rfl; have k5 := cell_heap (o := 5) hE rfl
    refine bodyPost_ret (v := .tuple #[.agg #[.int .i64 0, .int .i64 0, .int .i64 0, .int .i64 0, .int .i64 0, .int .i64 0], .int .i64 E]) (by simp only [results, Try.results39]; go_simp) rfl ⟨rfl, (by repeat (first | with_reducible exact Below.refl _ _ | with_reducible assumption | with_reducible refine Below.drew ?_ | with_reducible refine Below.setCell ?_ (by first | omega | (simp; omega) | simp) _ | with_reducible refine Below.alloc ?_ (by first | omega | (simp; omega) | simp) _ | with_reducible refine Below.trans ?_ (Below.mono (by with_reducible assumption) (by first | omega | (simp; omega) | simp))))⟩
set_option maxRecDepth 100000 in
set_option maxHeartbeats 8000000 in
theorem rcross_order (v : Value) (l : List SN) (w : World) (h : Seens w v l) (hb : behE l = 0) (hp : posB l = true) (hc : comes (bnds 0 (bhdL l)) = false) : Calls Try.prog 39 #[v] w fun e w' => e = .returned (crsV l) ∧ Below w.heap.size w w' := by
  rw [crsV_bad (crsE_com hb hp hc) (by omega)]
  have hpos := Lib.hid (fun w' (h : Seens w' v l) => by have := rpos_any v l w' h; unfold posV at this; rwa [posOk_yes hb hp, hb] at this)
  have bn0 : bndE l 0 = 0 := by rw [bndE_in (by omega) (by omega)]; exact hb
  have bn1 : bndE l 1 = 0 := by rw [bndE_in (by omega) (by omega)]; exact hb
  have bn2 : bndE l 2 = 0 := by rw [bndE_in (by omega) (by omega)]; exact hb
  have hbd0 := Lib.hid (fun w' (h : Seens w' v l) => by have := rbounds_any v l 0 w' h; rwa [bn0] at this)
  have hbd1 := Lib.hid (fun w' (h : Seens w' v l) => by have := rbounds_any v l 1 w' h; rwa [bn1] at this)
  have hbd2 := Lib.hid (fun w' (h : Seens w' v l) => by have := rbounds_any v l 2 w' h; rwa [bn2] at this)
  have hbl := (behE_len hb).2
  have hX2 : 2 ≤ (bnds 0 (bhdL l)).length := by rw [bnds_len]; exact hbl
  have hX64 := bnds_small 0 l
  have hcm := Lib.hid (fun w' u (h : Bnds w' u (bnds 0 (bhdL l))) => by have := coming_any u _ w' h hX64; rwa [hc] at this)
  obtain ⟨n, hn⟩ : ∃ n, (bnds 0 (bhdL l)).length = n + 1 := ⟨(bnds 0 (bhdL l)).length - 1, by omega⟩
  obtain ⟨s, hs⟩ := some_of' (l := bnds 0 (bhdL l)) (i := n) (by omega)
  have hS := Lib.hid hs
  clear hb hp hc bn0 bn1 bn2 hs
  generalize bnds 0 (bhdL l) = X at *
  generalize bnds 1 (bhdL l) = Y at *
  generalize bnds 2 (bhdL l) = Z at *
  go_enter Try.func39, Try.ntmps39
  go_wp2_with (first
    | ((go_at_call 32; refine (hpos.out _ (h.below (by repeat (first | with_reducible exact Below.refl _ _ | with_reducible assumption | with_reducible refine Below.drew ?_ | with_reducible refine Below.setCell ?_ (by first | omega | (simp; omega) | simp) _ | with_reducible refine Below.alloc ?_ (by first | omega | (simp; omega) | simp) _ | with_reducible refine Below.trans ?_ (Below.mono (by with_reducible assumption) (by first | omega | (simp; omega) | simp)))))).mono ?_; rintro e w1 ⟨rfl, hb1⟩; have hK : Below w.heap.size w w1 := Below.next1 (Below.refl _ _) (Nat.le_refl _) hb1; have hR := heap_old hb1 (heap_new w (.cells #[.int .i64 0, .int .i64 0, .int .i64 0, .int .i64 0, .int .i64 0, .int .i64 0] 70) rfl); clear hb1; (have r0 := cell_heap (o := 0) hR rfl; have r1 := cell_heap (o := 1) hR rfl; have r2 := cell_heap (o := 2) hR rfl; have r3 := cell_heap (o := 3) hR rfl; have r4 := cell_heap (o := 4) hR rfl; have r5 := cell_heap (o := 5) hR rfl; have z0 := frozen_heap (o := 0) hR; have z1 := frozen_heap (o := 1) hR; have z2 := frozen_heap (o := 2) hR; have z3 := frozen_heap (o := 3) hR; have z4 := frozen_heap (o := 4) hR; have z5 := frozen_heap (o := 5) hR)))
    | ((go_at_call_of 71 (Value.int IntKind.i64 0); refine (hbd0.out _ (h.below hK)).mono ?_; rintro e w2 ⟨u0, rfl, hu0, hb2⟩; have hx0 := hu0 (by first | rfl | trivial); clear hu0; replace hK := Below.next hK (Nat.le_refl _) hb2; replace hR := heap_old hb2 hR; clear hb2; (clear r0 r1 r2 r3 r4 r5 z0 z1 z2 z3 z4 z5); (have r0 := cell_heap (o := 0) hR rfl; have r1 := cell_heap (o := 1) hR rfl; have r2 := cell_heap (o := 2) hR rfl; have r3 := cell_heap (o := 3) hR rfl; have r4 := cell_heap (o := 4) hR rfl; have r5 := cell_heap (o := 5) hR rfl; have z0 := frozen_heap (o := 0) hR; have z1 := frozen_heap (o := 1) hR; have z2 := frozen_heap (o := 2) hR; have z3 := frozen_heap (o := 3) hR; have z4 := frozen_heap (o := 4) hR; have z5 := frozen_heap (o := 5) hR)))
    | ((go_at_call_of 71 (Value.int IntKind.i64 1); refine (hbd1.out _ (h.below hK)).mono ?_; rintro e w3 ⟨u1, rfl, hu1, hb3⟩; have hx1 := hu1 (by first | rfl | trivial); clear hu1; replace hx0 := hx0.below hb3; replace hK := Below.next hK (Nat.le_refl _) hb3; replace hR := heap_old hb3 hR; clear hb3; (clear r0 r1 r2 r3 r4 r5 z0 z1 z2 z3 z4 z5); (have r0 := cell_heap (o := 0) hR rfl; have r1 := cell_heap (o := 1) hR rfl; have r2 := cell_heap (o := 2) hR rfl; have r3 := cell_heap (o := 3) hR rfl; have r4 := cell_heap (o := 4) hR rfl; have r5 := cell_heap (o := 5) hR rfl; have z0 := frozen_heap (o := 0) hR; have z1 := frozen_heap (o := 1) hR; have z2 := frozen_heap (o := 2) hR; have z3 := frozen_heap (o := 3) hR; have z4 := frozen_heap (o := 4) hR; have z5 := frozen_heap (o := 5) hR)))
    | ((go_at_call_of 71 (Value.int IntKind.i64 2); refine (hbd2.out _ (h.below hK)).mono ?_; rintro e w4 ⟨u2, rfl, hu2, hb4⟩; have hx2 := hu2 (by first | rfl | trivial); clear hu2; replace hx0 := hx0.below hb4; replace hx1 := hx1.below hb4; replace hK := Below.next hK (Nat.le_refl _) hb4; replace hR := heap_old hb4 hR; clear hb4; (clear r0 r1 r2 r3 r4 r5 z0 z1 z2 z3 z4 z5); (have r0 := cell_heap (o := 0) hR rfl; have r1 := cell_heap (o := 1) hR rfl; have r2 := cell_heap (o := 2) hR rfl; have r3 := cell_heap (o := 3) hR rfl; have r4 := cell_heap (o := 4) hR rfl; have r5 := cell_heap (o := 5) hR rfl; have z0 := frozen_heap (o := 0) hR; have z1 := frozen_heap (o := 1) hR; have z2 := frozen_heap (o := 2) hR; have z3 := frozen_heap (o := 3) hR; have z4 := frozen_heap (o := 4) hR; have z5 := frozen_heap (o := 5) hR)))
    | ((go_at_call 80; refine (hcm.out _ _ hx0).mono ?_; rintro e w5 ⟨rfl, hb5⟩; replace hx0 := hx0.below hb5; replace hx1 := hx1.below hb5; replace hx2 := hx2.below hb5; replace hK := Below.next hK (Nat.le_refl _) hb5; replace hR := heap_old hb5 hR; clear hb5; (clear r0 r1 r2 r3 r4 r5 z0 z1 z2 z3 z4 z5); (have r0 := cell_heap (o := 0) hR rfl; have r1 := cell_heap (o := 1) hR rfl; have r2 := cell_heap (o := 2) hR rfl; have r3 := cell_heap (o := 3) hR rfl; have r4 := cell_heap (o := 4) hR rfl; have r5 := cell_heap (o := 5) hR rfl; have z0 := frozen_heap (o := 0) hR; have z1 := frozen_heap (o := 1) hR; have z2 := frozen_heap (o := 2) hR; have z3 := frozen_heap (o := 3) hR; have z4 := frozen_heap (o := 4) hR; have z5 := frozen_heap (o := 5) hR); have hx9 := hx0; obtain ⟨pa, b, o, cap, rfl, g1, g2, g3, g4⟩ := hx9; obtain rfl := g1 (by omega); obtain ⟨c0, c1, c2⟩ := cB_at (g4 n s hS.out); clear g4; rw [hn] at g2 hx0 ⊢)))
  have hE := heap_set (o := 5) (v := .int .i64 0) (heap_set (o := 4) (v := .int .i64 0) (heap_set (o := 3) (v := .int .i64 0) (heap_set (o := 2) (v := .int .i64 0) (heap_set (o := 1) (v := .int .i64 0) (heap_set (o := 0) (v := .int .i64 0) hR))))); simp only [List.setIfInBounds_toArray, List.set_cons_succ, List.set_cons_zero] at hE; have k0 := cell_heap (o := 0) hE rfl; have k1 := cell_heap (o := 1) hE rfl; have k2 := cell_heap (o := 2) hE rfl; have k3 := cell_heap (o := 3) hE rfl; have k4 := cell_heap (o := 4) hE rfl; have k5 := cell_heap (o := 5) hE rfl
  refine bodyPost_ret (v := .tuple #[.agg #[.int .i64 0, .int .i64 0, .int .i64 0, .int .i64 0, .int .i64 0, .int .i64 0], .int .i64 8]) (by simp only [results, Try.results39]; go_simp) rfl ⟨rfl, (by repeat (first | with_reducible exact Below.refl _ _ | with_reducible assumption | with_reducible refine Below.drew ?_ | with_reducible refine Below.setCell ?_ (by first | omega | (simp; omega) | simp) _ | with_reducible refine Below.alloc ?_ (by first | omega | (simp; omega) | simp) _ | with_reducible refine Below.trans ?_ (Below.mono (by with_reducible assumption) (by first | omega | (simp; omega) | simp))))⟩
set_option maxRecDepth 100000 in
set_option maxHeartbeats 8000000 in
theorem rcross_none (v : Value) (l : List SN) (w : World) (h : Seens w v l) (hb : behE l = 0) (hp : posB l = true) (hc : comes (bnds 0 (bhdL l)) = true) (h4 : (lastB (bnds 0 (bhdL l))).2.1 ≤ 0 ∨ 0 ≤ hiR (bnds 0 (bhdL l)) ((lastB (bnds 0 (bhdL l))).1 + 400) ((lastB (bnds 0 (bhdL l))).1 + 400)) : Calls Try.prog 39 #[v] w fun e w' => e = .returned (crsV l) ∧ Below w.heap.size w w' := by
  rw [crsV_bad (crsE_non hb hp hc h4) (by omega)]
  have hpos := Lib.hid (fun w' (h : Seens w' v l) => by have := rpos_any v l w' h; unfold posV at this; rwa [posOk_yes hb hp, hb] at this)
  have bn0 : bndE l 0 = 0 := by rw [bndE_in (by omega) (by omega)]; exact hb
  have bn1 : bndE l 1 = 0 := by rw [bndE_in (by omega) (by omega)]; exact hb
  have bn2 : bndE l 2 = 0 := by rw [bndE_in (by omega) (by omega)]; exact hb
  have hbd0 := Lib.hid (fun w' (h : Seens w' v l) => by have := rbounds_any v l 0 w' h; rwa [bn0] at this)
  have hbd1 := Lib.hid (fun w' (h : Seens w' v l) => by have := rbounds_any v l 1 w' h; rwa [bn1] at this)
  have hbd2 := Lib.hid (fun w' (h : Seens w' v l) => by have := rbounds_any v l 2 w' h; rwa [bn2] at this)
  have hbl := (behE_len hb).2
  have hX2 : 2 ≤ (bnds 0 (bhdL l)).length := by rw [bnds_len]; exact hbl
  have hX64 := bnds_small 0 l
  have hcm := Lib.hid (fun w' u (h : Bnds w' u (bnds 0 (bhdL l))) => by have := coming_any u _ w' h hX64; rwa [hc] at this)
  have hbt := Lib.hid (fun w' u t (h : Bnds w' u (bnds 0 (bhdL l))) (t1 : -10 ≤ t) (t2 : t ≤ 5000) => rbetw_any u _ t t w' h (bnds_ok (ax := 0)) (bnds_rise 0 l) hX64 t1 t2 t1 t2)
  obtain ⟨n, hn⟩ : ∃ n, (bnds 0 (bhdL l)).length = n + 1 := ⟨(bnds 0 (bhdL l)).length - 1, by omega⟩
  have hn64 : n ≤ 63 := by omega
  obtain ⟨s, hs⟩ := some_of' (l := bnds 0 (bhdL l)) (i := n) (by omega)
  have hlast : lastB (bnds 0 (bhdL l)) = s := lastB_some (by rw [hn]; simpa using hs)
  obtain ⟨⟨s1, s2⟩, s3, s4, s5⟩ := bnds_ok (ax := 0) s (List.mem_of_getElem? hs)
  have hEn := Lib.hid (fun w' u (h : Bnds w' u (bnds 0 (bhdL l))) => hbt.out w' u (s.1 + 400) h (by omega) (by omega))
  have hS := Lib.hid hs
  rw [hlast] at h4
  clear hb hp hc bn0 bn1 bn2 hs hlast
  generalize bnds 0 (bhdL l) = X at *
  generalize bnds 1 (bhdL l) = Y at *
  generalize bnds 2 (bhdL l) = Z at *
  generalize loR X (s.1 + 400) (s.1 + 400) = A at *
  generalize hiR X (s.1 + 400) (s.1 + 400) = B at *
  by_cases h5 : s.2.1 ≤ 0
  · clear h4
    go_enter Try.func39, Try.ntmps39
    go_wp2_with (first
      | ((go_at_call 32; refine (hpos.out _ (h.below (by repeat (first | with_reducible exact Below.refl _ _ | with_reducible assumption | with_reducible refine Below.drew ?_ | with_reducible refine Below.setCell ?_ (by first | omega | (simp; omega) | simp) _ | with_reducible refine Below.alloc ?_ (by first | omega | (simp; omega) | simp) _ | with_reducible refine Below.trans ?_ (Below.mono (by with_reducible assumption) (by first | omega | (simp; omega) | simp)))))).mono ?_; rintro e w1 ⟨rfl, hb1⟩; have hK : Below w.heap.size w w1 := Below.next1 (Below.refl _ _) (Nat.le_refl _) hb1; have hR := heap_old hb1 (heap_new w (.cells #[.int .i64 0, .int .i64 0, .int .i64 0, .int .i64 0, .int .i64 0, .int .i64 0] 70) rfl); clear hb1; (have r0 := cell_heap (o := 0) hR rfl; have r1 := cell_heap (o := 1) hR rfl; have r2 := cell_heap (o := 2) hR rfl; have r3 := cell_heap (o := 3) hR rfl; have r4 := cell_heap (o := 4) hR rfl; have r5 := cell_heap (o := 5) hR rfl; have z0 := frozen_heap (o := 0) hR; have z1 := frozen_heap (o := 1) hR; have z2 := frozen_heap (o := 2) hR; have z3 := frozen_heap (o := 3) hR; have z4 := frozen_heap (o := 4) hR; have z5 := frozen_heap (o := 5) hR)))
      | ((go_at_call_of 71 (Value.int IntKind.i64 0); refine (hbd0.out _ (h.below hK)).mono ?_; rintro e w2 ⟨u0, rfl, hu0, hb2⟩; have hx0 := hu0 (by first | rfl | trivial); clear hu0; replace hK := Below.next hK (Nat.le_refl _) hb2; replace hR := heap_old hb2 hR; clear hb2; (clear r0 r1 r2 r3 r4 r5 z0 z1 z2 z3 z4 z5); (have r0 := cell_heap (o := 0) hR rfl; have r1 := cell_heap (o := 1) hR rfl; have r2 := cell_heap (o := 2) hR rfl; have r3 := cell_heap (o := 3) hR rfl; have r4 := cell_heap (o := 4) hR rfl; have r5 := cell_heap (o := 5) hR rfl; have z0 := frozen_heap (o := 0) hR; have z1 := frozen_heap (o := 1) hR; have z2 := frozen_heap (o := 2) hR; have z3 := frozen_heap (o := 3) hR; have z4 := frozen_heap (o := 4) hR; have z5 := frozen_heap (o := 5) hR)))
      | ((go_at_call_of 71 (Value.int IntKind.i64 1); refine (hbd1.out _ (h.below hK)).mono ?_; rintro e w3 ⟨u1, rfl, hu1, hb3⟩; have hx1 := hu1 (by first | rfl | trivial); clear hu1; replace hx0 := hx0.below hb3; replace hK := Below.next hK (Nat.le_refl _) hb3; replace hR := heap_old hb3 hR; clear hb3; (clear r0 r1 r2 r3 r4 r5 z0 z1 z2 z3 z4 z5); (have r0 := cell_heap (o := 0) hR rfl; have r1 := cell_heap (o := 1) hR rfl; have r2 := cell_heap (o := 2) hR rfl; have r3 := cell_heap (o := 3) hR rfl; have r4 := cell_heap (o := 4) hR rfl; have r5 := cell_heap (o := 5) hR rfl; have z0 := frozen_heap (o := 0) hR; have z1 := frozen_heap (o := 1) hR; have z2 := frozen_heap (o := 2) hR; have z3 := frozen_heap (o := 3) hR; have z4 := frozen_heap (o := 4) hR; have z5 := frozen_heap (o := 5) hR)))
      | ((go_at_call_of 71 (Value.int IntKind.i64 2); refine (hbd2.out _ (h.below hK)).mono ?_; rintro e w4 ⟨u2, rfl, hu2, hb4⟩; have hx2 := hu2 (by first | rfl | trivial); clear hu2; replace hx0 := hx0.below hb4; replace hx1 := hx1.below hb4; replace hK := Below.next hK (Nat.le_refl _) hb4; replace hR := heap_old hb4 hR; clear hb4; (clear r0 r1 r2 r3 r4 r5 z0 z1 z2 z3 z4 z5); (have r0 := cell_heap (o := 0) hR rfl; have r1 := cell_heap (o := 1) hR rfl; have r2 := cell_heap (o := 2) hR rfl; have r3 := cell_heap (o := 3) hR rfl; have r4 := cell_heap (o := 4) hR rfl; have r5 := cell_heap (o := 5) hR rfl; have z0 := frozen_heap (o := 0) hR; have z1 := frozen_heap (o := 1) hR; have z2 := frozen_heap (o := 2) hR; have z3 := frozen_heap (o := 3) hR; have z4 := frozen_heap (o := 4) hR; have z5 := frozen_heap (o := 5) hR)))
      | ((go_at_call 80; refine (hcm.out _ _ hx0).mono ?_; rintro e w5 ⟨rfl, hb5⟩; replace hx0 := hx0.below hb5; replace hx1 := hx1.below hb5; replace hx2 := hx2.below hb5; replace hK := Below.next hK (Nat.le_refl _) hb5; replace hR := heap_old hb5 hR; clear hb5; (clear r0 r1 r2 r3 r4 r5 z0 z1 z2 z3 z4 z5); (have r0 := cell_heap (o := 0) hR rfl; have r1 := cell_heap (o := 1) hR rfl; have r2 := cell_heap (o := 2) hR rfl; have r3 := cell_heap (o := 3) hR rfl; have r4 := cell_heap (o := 4) hR rfl; have r5 := cell_heap (o := 5) hR rfl; have z0 := frozen_heap (o := 0) hR; have z1 := frozen_heap (o := 1) hR; have z2 := frozen_heap (o := 2) hR; have z3 := frozen_heap (o := 3) hR; have z4 := frozen_heap (o := 4) hR; have z5 := frozen_heap (o := 5) hR); have hx9 := hx0; obtain ⟨pa, b, o, cap, rfl, g1, g2, g3, g4⟩ := hx9; obtain rfl := g1 (by omega); obtain ⟨c0, c1, c2⟩ := cB_at (g4 n s hS.out); clear g4; rw [hn] at g2 hx0 ⊢))
      | ((go_at_call 73; refine (hEn.out _ _ hx0).mono ?_; rintro e w6 ⟨rfl, hb6⟩; replace hx0 := hx0.below hb6; replace hx1 := hx1.below hb6; replace hx2 := hx2.below hb6; replace hK := Below.next hK (Nat.le_refl _) hb6; replace hR := heap_old hb6 hR; clear hb6; (clear r0 r1 r2 r3 r4 r5 z0 z1 z2 z3 z4 z5); (have r0 := cell_heap (o := 0) hR rfl; have r1 := cell_heap (o := 1) hR rfl; have r2 := cell_heap (o := 2) hR rfl; have r3 := cell_heap (o := 3) hR rfl; have r4 := cell_heap (o := 4) hR rfl; have r5 := cell_heap (o := 5) hR rfl; have z0 := frozen_heap (o := 0) hR; have z1 := frozen_heap (o := 1) hR; have z2 := frozen_heap (o := 2) hR; have z3 := frozen_heap (o := 3) hR; have z4 := frozen_heap (o := 4) hR; have z5 := frozen_heap (o := 5) hR))))
    have hE := heap_set (o := 5) (v := .int .i64 0) (heap_set (o := 4) (v := .int .i64 0) (heap_set (o := 3) (v := .int .i64 0) (heap_set (o := 2) (v := .int .i64 0) (heap_set (o := 1) (v := .int .i64 0) (heap_set (o := 0) (v := .int .i64 0) hR))))); simp only [List.setIfInBounds_toArray, List.set_cons_succ, List.set_cons_zero] at hE; have k0 := cell_heap (o := 0) hE rfl; have k1 := cell_heap (o := 1) hE rfl; have k2 := cell_heap (o := 2) hE rfl; have k3 := cell_heap (o := 3) hE rfl; have k4 := cell_heap (o := 4) hE rfl; have k5 := cell_heap (o := 5) hE rfl
    refine bodyPost_ret (v := .tuple #[.agg #[.int .i64 0, .int .i64 0, .int .i64 0, .int .i64 0, .int .i64 0, .int .i64 0], .int .i64 6]) (by simp only [results, Try.results39]; go_simp) rfl ⟨rfl, (by repeat (first | with_reducible exact Below.refl _ _ | with_reducible assumption | with_reducible refine Below.drew ?_ | with_reducible refine Below.setCell ?_ (by first | omega | (simp; omega) | simp) _ | with_reducible refine Below.alloc ?_ (by first | omega | (simp; omega) | simp) _ | with_reducible refine Below.trans ?_ (Below.mono (by with_reducible assumption) (by first | omega | (simp; omega) | simp))))⟩
  · have h6 := h4.resolve_left h5
    clear h4
    go_enter Try.func39, Try.ntmps39
    go_wp2_with (first
      | ((go_at_call 32; refine (hpos.out _ (h.below (by repeat (first | with_reducible exact Below.refl _ _ | with_reducible assumption | with_reducible refine Below.drew ?_ | with_reducible refine Below.setCell ?_ (by first | omega | (simp; omega) | simp) _ | with_reducible refine Below.alloc ?_ (by first | omega | (simp; omega) | simp) _ | with_reducible refine Below.trans ?_ (Below.mono (by with_reducible assumption) (by first | omega | (simp; omega) | simp)))))).mono ?_; rintro e w1 ⟨rfl, hb1⟩; have hK : Below w.heap.size w w1 := Below.next1 (Below.refl _ _) (Nat.le_refl _) hb1; have hR := heap_old hb1 (heap_new w (.cells #[.int .i64 0, .int .i64 0, .int .i64 0, .int .i64 0, .int .i64 0, .int .i64 0] 70) rfl); clear hb1; (have r0 := cell_heap (o := 0) hR rfl; have r1 := cell_heap (o := 1) hR rfl; have r2 := cell_heap (o := 2) hR rfl; have r3 := cell_heap (o := 3) hR rfl; have r4 := cell_heap (o := 4) hR rfl; have r5 := cell_heap (o := 5) hR rfl; have z0 := frozen_heap (o := 0) hR; have z1 := frozen_heap (o := 1) hR; have z2 := frozen_heap (o := 2) hR; have z3 := frozen_heap (o := 3) hR; have z4 := frozen_heap (o := 4) hR; have z5 := frozen_heap (o := 5) hR)))
      | ((go_at_call_of 71 (Value.int IntKind.i64 0); refine (hbd0.out _ (h.below hK)).mono ?_; rintro e w2 ⟨u0, rfl, hu0, hb2⟩; have hx0 := hu0 (by first | rfl | trivial); clear hu0; replace hK := Below.next hK (Nat.le_refl _) hb2; replace hR := heap_old hb2 hR; clear hb2; (clear r0 r1 r2 r3 r4 r5 z0 z1 z2 z3 z4 z5); (have r0 := cell_heap (o := 0) hR rfl; have r1 := cell_heap (o := 1) hR rfl; have r2 := cell_heap (o := 2) hR rfl; have r3 := cell_heap (o := 3) hR rfl; have r4 := cell_heap (o := 4) hR rfl; have r5 := cell_heap (o := 5) hR rfl; have z0 := frozen_heap (o := 0) hR; have z1 := frozen_heap (o := 1) hR; have z2 := frozen_heap (o := 2) hR; have z3 := frozen_heap (o := 3) hR; have z4 := frozen_heap (o := 4) hR; have z5 := frozen_heap (o := 5) hR)))
      | ((go_at_call_of 71 (Value.int IntKind.i64 1); refine (hbd1.out _ (h.below hK)).mono ?_; rintro e w3 ⟨u1, rfl, hu1, hb3⟩; have hx1 := hu1 (by first | rfl | trivial); clear hu1; replace hx0 := hx0.below hb3; replace hK := Below.next hK (Nat.le_refl _) hb3; replace hR := heap_old hb3 hR; clear hb3; (clear r0 r1 r2 r3 r4 r5 z0 z1 z2 z3 z4 z5); (have r0 := cell_heap (o := 0) hR rfl; have r1 := cell_heap (o := 1) hR rfl; have r2 := cell_heap (o := 2) hR rfl; have r3 := cell_heap (o := 3) hR rfl; have r4 := cell_heap (o := 4) hR rfl; have r5 := cell_heap (o := 5) hR rfl; have z0 := frozen_heap (o := 0) hR; have z1 := frozen_heap (o := 1) hR; have z2 := frozen_heap (o := 2) hR; have z3 := frozen_heap (o := 3) hR; have z4 := frozen_heap (o := 4) hR; have z5 := frozen_heap (o := 5) hR)))
      | ((go_at_call_of 71 (Value.int IntKind.i64 2); refine (hbd2.out _ (h.below hK)).mono ?_; rintro e w4 ⟨u2, rfl, hu2, hb4⟩; have hx2 := hu2 (by first | rfl | trivial); clear hu2; replace hx0 := hx0.below hb4; replace hx1 := hx1.below hb4; replace hK := Below.next hK (Nat.le_refl _) hb4; replace hR := heap_old hb4 hR; clear hb4; (clear r0 r1 r2 r3 r4 r5 z0 z1 z2 z3 z4 z5); (have r0 := cell_heap (o := 0) hR rfl; have r1 := cell_heap (o := 1) hR rfl; have r2 := cell_heap (o := 2) hR rfl; have r3 := cell_heap (o := 3) hR rfl; have r4 := cell_heap (o := 4) hR rfl; have r5 := cell_heap (o := 5) hR rfl; have z0 := frozen_heap (o := 0) hR; have z1 := frozen_heap (o := 1) hR; have z2 := frozen_heap (o := 2) hR; have z3 := frozen_heap (o := 3) hR; have z4 := frozen_heap (o := 4) hR; have z5 := frozen_heap (o := 5) hR)))
      | ((go_at_call 80; refine (hcm.out _ _ hx0).mono ?_; rintro e w5 ⟨rfl, hb5⟩; replace hx0 := hx0.below hb5; replace hx1 := hx1.below hb5; replace hx2 := hx2.below hb5; replace hK := Below.next hK (Nat.le_refl _) hb5; replace hR := heap_old hb5 hR; clear hb5; (clear r0 r1 r2 r3 r4 r5 z0 z1 z2 z3 z4 z5); (have r0 := cell_heap (o := 0) hR rfl; have r1 := cell_heap (o := 1) hR rfl; have r2 := cell_heap (o := 2) hR rfl; have r3 := cell_heap (o := 3) hR rfl; have r4 := cell_heap (o := 4) hR rfl; have r5 := cell_heap (o := 5) hR rfl; have z0 := frozen_heap (o := 0) hR; have z1 := frozen_heap (o := 1) hR; have z2 := frozen_heap (o := 2) hR; have z3 := frozen_heap (o := 3) hR; have z4 := frozen_heap (o := 4) hR; have z5 := frozen_heap (o := 5) hR); have hx9 := hx0; obtain ⟨pa, b, o, cap, rfl, g1, g2, g3, g4⟩ := hx9; obtain rfl := g1 (by omega); obtain ⟨c0, c1, c2⟩ := cB_at (g4 n s hS.out); clear g4; rw [hn] at g2 hx0 ⊢))
      | ((go_at_call 73; refine (hEn.out _ _ hx0).mono ?_; rintro e w6 ⟨rfl, hb6⟩; replace hx0 := hx0.below hb6; replace hx1 := hx1.below hb6; replace hx2 := hx2.below hb6; replace hK := Below.next hK (Nat.le_refl _) hb6; replace hR := heap_old hb6 hR; clear hb6; (clear r0 r1 r2 r3 r4 r5 z0 z1 z2 z3 z4 z5); (have r0 := cell_heap (o := 0) hR rfl; have r1 := cell_heap (o := 1) hR rfl; have r2 := cell_heap (o := 2) hR rfl; have r3 := cell_heap (o := 3) hR rfl; have r4 := cell_heap (o := 4) hR rfl; have r5 := cell_heap (o := 5) hR rfl; have z0 := frozen_heap (o := 0) hR; have z1 := frozen_heap (o := 1) hR; have z2 := frozen_heap (o := 2) hR; have z3 := frozen_heap (o := 3) hR; have z4 := frozen_heap (o := 4) hR; have z5 := frozen_heap (o := 5) hR))))
    have hE := heap_set (o := 5) (v := .int .i64 0) (heap_set (o := 4) (v := .int .i64 0) (heap_set (o := 3) (v := .int .i64 0) (heap_set (o := 2) (v := .int .i64 0) (heap_set (o := 1) (v := .int .i64 0) (heap_set (o := 0) (v := .int .i64 0) hR))))); simp only [List.setIfInBounds_toArray, List.set_cons_succ, List.set_cons_zero] at hE; have k0 := cell_heap (o := 0) hE rfl; have k1 := cell_heap (o := 1) hE rfl; have k2 := cell_heap (o := 2) hE rfl; have k3 := cell_heap (o := 3) hE rfl; have k4 := cell_heap (o := 4) hE rfl; have k5 := cell_heap (o := 5) hE rfl
    refine bodyPost_ret (v := .tuple #[.agg #[.int .i64 0, .int .i64 0, .int .i64 0, .int .i64 0, .int .i64 0, .int .i64 0], .int .i64 6]) (by simp only [results, Try.results39]; go_simp) rfl ⟨rfl, (by repeat (first | with_reducible exact Below.refl _ _ | with_reducible assumption | with_reducible refine Below.drew ?_ | with_reducible refine Below.setCell ?_ (by first | omega | (simp; omega) | simp) _ | with_reducible refine Below.alloc ?_ (by first | omega | (simp; omega) | simp) _ | with_reducible refine Below.trans ?_ (Below.mono (by with_reducible assumption) (by first | omega | (simp; omega) | simp))))⟩
set_option maxRecDepth 100000 in
set_option maxHeartbeats 8000000 in
theorem rcross_good (v : Value) (l : List SN) (w : World) (h : Seens w v l) (hb : behE l = 0) (hp : posB l = true) (hc : comes (bnds 0 (bhdL l)) = true) (h4 : ¬((lastB (bnds 0 (bhdL l))).2.1 ≤ 0 ∨ 0 ≤ hiR (bnds 0 (bhdL l)) ((lastB (bnds 0 (bhdL l))).1 + 400) ((lastB (bnds 0 (bhdL l))).1 + 400))) : Calls Try.prog 39 #[v] w fun e w' => e = .returned (crsV l) ∧ Below w.heap.size w w' := by
  have hE0 := crsE_ok hb hp hc h4
  unfold crsV
  rw [if_pos hE0]
  have hpos := Lib.hid (fun w' (h : Seens w' v l) => by have := rpos_any v l w' h; unfold posV at this; rwa [posOk_yes hb hp, hb] at this)
  have bn0 : bndE l 0 = 0 := by rw [bndE_in (by omega) (by omega)]; exact hb
  have bn1 : bndE l 1 = 0 := by rw [bndE_in (by omega) (by omega)]; exact hb
  have bn2 : bndE l 2 = 0 := by rw [bndE_in (by omega) (by omega)]; exact hb
  have hbd0 := Lib.hid (fun w' (h : Seens w' v l) => by have := rbounds_any v l 0 w' h; rwa [bn0] at this)
  have hbd1 := Lib.hid (fun w' (h : Seens w' v l) => by have := rbounds_any v l 1 w' h; rwa [bn1] at this)
  have hbd2 := Lib.hid (fun w' (h : Seens w' v l) => by have := rbounds_any v l 2 w' h; rwa [bn2] at this)
  have hbl := (behE_len hb).2
  have hX2 : 2 ≤ (bnds 0 (bhdL l)).length := by rw [bnds_len]; exact hbl
  have hX64 := bnds_small 0 l
  have hcm := Lib.hid (fun w' u (h : Bnds w' u (bnds 0 (bhdL l))) => by have := coming_any u _ w' h hX64; rwa [hc] at this)
  have hbt := Lib.hid (fun w' u t (h : Bnds w' u (bnds 0 (bhdL l))) (t1 : -10 ≤ t) (t2 : t ≤ 5000) => rbetw_any u _ t t w' h (bnds_ok (ax := 0)) (bnds_rise 0 l) hX64 t1 t2 t1 t2)
  obtain ⟨n, hn⟩ : ∃ n, (bnds 0 (bhdL l)).length = n + 1 := ⟨(bnds 0 (bhdL l)).length - 1, by omega⟩
  have hn64 : n ≤ 63 := by omega
  obtain ⟨s, hs⟩ := some_of' (l := bnds 0 (bhdL l)) (i := n) (by omega)
  have hlast : lastB (bnds 0 (bhdL l)) = s := lastB_some (by rw [hn]; simpa using hs)
  obtain ⟨⟨s1, s2⟩, s3, s4, s5⟩ := bnds_ok (ax := 0) s (List.mem_of_getElem? hs)
  have hEn := Lib.hid (fun w' u (h : Bnds w' u (bnds 0 (bhdL l))) => hbt.out w' u (s.1 + 400) h (by omega) (by omega))
  have hS := Lib.hid hs
  have hf0 : fitsB (bnds 0 (bhdL l)) = true := by unfold posB at hp; simp only [Bool.and_eq_true] at hp; exact hp.1
  obtain ⟨⟨f1, f2, f3, f4⟩, f5, f6, f7⟩ := crs_k (bnds_rise 0 l) (bnds_ok (ax := 0)) hX2 hf0 (by omega) (by omega)
  have hT1 : cT1 l = s.1 + crsF (bnds 0 (bhdL l)) - 1 := by unfold cT1; rw [hlast]
  have hT2 : cT2 l = s.1 + crsL (bnds 0 (bhdL l)) + 1 := by unfold cT2; rw [hlast]
  rw [hlast] at f1 f4 f5 f7 h4
  have hl0 : 0 < s.2.1 := by omega
  have hh0 : hiR (bnds 0 (bhdL l)) (s.1 + 400) (s.1 + 400) < 0 := by omega
  have b1 : -10 ≤ cT1 l := by omega
  have b2 : cT1 l ≤ 5000 := by omega
  have b3 : -10 ≤ cT2 l := by omega
  have b4 : cT2 l ≤ 5000 := by omega
  have hdu1 := Lib.hid (fun w' u (h : Bnds w' u (bnds 1 (bhdL l))) => rbetw_any u _ (cT1 l) (cT2 l) w' h (bnds_ok (ax := 1)) (bnds_rise 1 l) (bnds_small 1 l) b1 b2 b3 b4)
  have hdu2 := Lib.hid (fun w' u (h : Bnds w' u (bnds 2 (bhdL l))) => rbetw_any u _ (cT1 l) (cT2 l) w' h (bnds_ok (ax := 2)) (bnds_rise 2 l) (bnds_small 2 l) b1 b2 b3 b4)
  obtain ⟨z1, z2⟩ := loR_bd (bnds_ok (ax := 2) (l := l)) (bnds_rise 2 l) b1 b2 b3 b4
  obtain ⟨z3, z4⟩ := hiR_bd (bnds_ok (ax := 2) (l := l)) (bnds_rise 2 l) b1 b2 b3 b4
  have hfa := Lib.hid (fun w' => rlowered_any (loR (bnds 2 (bhdL l)) (cT1 l) (cT2 l)) (hiR (bnds 2 (bhdL l)) (cT1 l) (cT2 l)) (cT1 l) (cT2 l) w' z1 z2 z3 z4 b1 b2 b3 b4)
  unfold falV at hfa
  generalize fallLo (loR (bnds 2 (bhdL l)) (cT1 l) (cT2 l)) (hiR (bnds 2 (bhdL l)) (cT1 l) (cT2 l)) (cT1 l) (cT2 l) = zl at *
  generalize fallHi (loR (bnds 2 (bhdL l)) (cT1 l) (cT2 l)) (hiR (bnds 2 (bhdL l)) (cT1 l) (cT2 l)) (cT1 l) (cT2 l) = zh at *
  generalize loR (bnds 2 (bhdL l)) (cT1 l) (cT2 l) = zlo at *
  generalize hiR (bnds 2 (bhdL l)) (cT1 l) (cT2 l) = zhi at *
  generalize loR (bnds 1 (bhdL l)) (cT1 l) (cT2 l) = ylo at *
  generalize hiR (bnds 1 (bhdL l)) (cT1 l) (cT2 l) = yhi at *
  generalize cT1 l = ta at *
  generalize cT2 l = tb at *
  generalize crsF (bnds 0 (bhdL l)) = kF at *
  generalize crsL (bnds 0 (bhdL l)) = kL at *
  clear hb hp hc h4 hE0 bn0 bn1 bn2 hs hlast hX2 hf0 z1 z2 z3 z4
  generalize bnds 0 (bhdL l) = X at *
  generalize bnds 1 (bhdL l) = Y at *
  generalize bnds 2 (bhdL l) = Z at *
  have F1 := Lib.hid f1
  have F4 := Lib.hid f4
  have F5 := Lib.hid f5
  have F7 := Lib.hid f7
  have HT1 := Lib.hid hT1
  have HT2 := Lib.hid hT2
  clear f1 f4 f5 f7 hT1 hT2
  generalize loR X (s.1 + 400) (s.1 + 400) = A at hEn
  generalize hiR X (s.1 + 400) (s.1 + 400) = B at hEn hh0
  go_enter Try.func39, Try.ntmps39
  go_wp2_with (first
      | ((go_at_call 32; refine (hpos.out _ (h.below (by repeat (first | with_reducible exact Below.refl _ _ | with_reducible assumption | with_reducible refine Below.drew ?_ | with_reducible refine Below.setCell ?_ (by first | omega | (simp; omega) | simp) _ | with_reducible refine Below.alloc ?_ (by first | omega | (simp; omega) | simp) _ | with_reducible refine Below.trans ?_ (Below.mono (by with_reducible assumption) (by first | omega | (simp; omega) | simp)))))).mono ?_; rintro e w1 ⟨rfl, hb1⟩; have hK : Below w.heap.size w w1 := Below.next1 (Below.refl _ _) (Nat.le_refl _) hb1; have hR := heap_old hb1 (heap_new w (.cells #[.int .i64 0, .int .i64 0, .int .i64 0, .int .i64 0, .int .i64 0, .int .i64 0] 70) rfl); clear hb1; (have r0 := cell_heap (o := 0) hR rfl; have r1 := cell_heap (o := 1) hR rfl; have r2 := cell_heap (o := 2) hR rfl; have r3 := cell_heap (o := 3) hR rfl; have r4 := cell_heap (o := 4) hR rfl; have r5 := cell_heap (o := 5) hR rfl; have z0 := frozen_heap (o := 0) hR; have z1 := frozen_heap (o := 1) hR; have z2 := frozen_heap (o := 2) hR; have z3 := frozen_heap (o := 3) hR; have z4 := frozen_heap (o := 4) hR; have z5 := frozen_heap (o := 5) hR)))
      | ((go_at_call_of 71 (Value.int IntKind.i64 0); refine (hbd0.out _ (h.below hK)).mono ?_; rintro e w2 ⟨u0, rfl, hu0, hb2⟩; have hx0 := hu0 (by first | rfl | trivial); clear hu0; replace hK := Below.next hK (Nat.le_refl _) hb2; replace hR := heap_old hb2 hR; clear hb2; (clear r0 r1 r2 r3 r4 r5 z0 z1 z2 z3 z4 z5); (have r0 := cell_heap (o := 0) hR rfl; have r1 := cell_heap (o := 1) hR rfl; have r2 := cell_heap (o := 2) hR rfl; have r3 := cell_heap (o := 3) hR rfl; have r4 := cell_heap (o := 4) hR rfl; have r5 := cell_heap (o := 5) hR rfl; have z0 := frozen_heap (o := 0) hR; have z1 := frozen_heap (o := 1) hR; have z2 := frozen_heap (o := 2) hR; have z3 := frozen_heap (o := 3) hR; have z4 := frozen_heap (o := 4) hR; have z5 := frozen_heap (o := 5) hR)))
      | ((go_at_call_of 71 (Value.int IntKind.i64 1); refine (hbd1.out _ (h.below hK)).mono ?_; rintro e w3 ⟨u1, rfl, hu1, hb3⟩; have hx1 := hu1 (by first | rfl | trivial); clear hu1; replace hx0 := hx0.below hb3; replace hK := Below.next hK (Nat.le_refl _) hb3; replace hR := heap_old hb3 hR; clear hb3; (clear r0 r1 r2 r3 r4 r5 z0 z1 z2 z3 z4 z5); (have r0 := cell_heap (o := 0) hR rfl; have r1 := cell_heap (o := 1) hR rfl; have r2 := cell_heap (o := 2) hR rfl; have r3 := cell_heap (o := 3) hR rfl; have r4 := cell_heap (o := 4) hR rfl; have r5 := cell_heap (o := 5) hR rfl; have z0 := frozen_heap (o := 0) hR; have z1 := frozen_heap (o := 1) hR; have z2 := frozen_heap (o := 2) hR; have z3 := frozen_heap (o := 3) hR; have z4 := frozen_heap (o := 4) hR; have z5 := frozen_heap (o := 5) hR)))
      | ((go_at_call_of 71 (Value.int IntKind.i64 2); refine (hbd2.out _ (h.below hK)).mono ?_; rintro e w4 ⟨u2, rfl, hu2, hb4⟩; have hx2 := hu2 (by first | rfl | trivial); clear hu2; replace hx0 := hx0.below hb4; replace hx1 := hx1.below hb4; replace hK := Below.next hK (Nat.le_refl _) hb4; replace hR := heap_old hb4 hR; clear hb4; (clear r0 r1 r2 r3 r4 r5 z0 z1 z2 z3 z4 z5); (have r0 := cell_heap (o := 0) hR rfl; have r1 := cell_heap (o := 1) hR rfl; have r2 := cell_heap (o := 2) hR rfl; have r3 := cell_heap (o := 3) hR rfl; have r4 := cell_heap (o := 4) hR rfl; have r5 := cell_heap (o := 5) hR rfl; have z0 := frozen_heap (o := 0) hR; have z1 := frozen_heap (o := 1) hR; have z2 := frozen_heap (o := 2) hR; have z3 := frozen_heap (o := 3) hR; have z4 := frozen_heap (o := 4) hR; have z5 := frozen_heap (o := 5) hR)))
      | ((go_at_call 80; refine (hcm.out _ _ hx0).mono ?_; rintro e w5 ⟨rfl, hb5⟩; replace hx0 := hx0.below hb5; replace hx1 := hx1.below hb5; replace hx2 := hx2.below hb5; replace hK := Below.next hK (Nat.le_refl _) hb5; replace hR := heap_old hb5 hR; clear hb5; (clear r0 r1 r2 r3 r4 r5 z0 z1 z2 z3 z4 z5); (have r0 := cell_heap (o := 0) hR rfl; have r1 := cell_heap (o := 1) hR rfl; have r2 := cell_heap (o := 2) hR rfl; have r3 := cell_heap (o := 3) hR rfl; have r4 := cell_heap (o := 4) hR rfl; have r5 := cell_heap (o := 5) hR rfl; have z0 := frozen_heap (o := 0) hR; have z1 := frozen_heap (o := 1) hR; have z2 := frozen_heap (o := 2) hR; have z3 := frozen_heap (o := 3) hR; have z4 := frozen_heap (o := 4) hR; have z5 := frozen_heap (o := 5) hR); have hx9 := hx0; obtain ⟨pa, b, o, cap, rfl, g1, g2, g3, g4⟩ := hx9; obtain rfl := g1 (by omega); obtain ⟨c0, c1, c2⟩ := cB_at (g4 n s hS.out); clear g4; rw [hn] at g2 hx0 ⊢))
      | ((go_at_call 73; refine (hEn.out _ _ hx0).mono ?_; rintro e w6 ⟨rfl, hb6⟩; replace hx0 := hx0.below hb6; replace hx1 := hx1.below hb6; replace hx2 := hx2.below hb6; replace hK := Below.next hK (Nat.le_refl _) hb6; replace hR := heap_old hb6 hR; clear hb6; (clear r0 r1 r2 r3 r4 r5 z0 z1 z2 z3 z4 z5); (have r0 := cell_heap (o := 0) hR rfl; have r1 := cell_heap (o := 1) hR rfl; have r2 := cell_heap (o := 2) hR rfl; have r3 := cell_heap (o := 3) hR rfl; have r4 := cell_heap (o := 4) hR rfl; have r5 := cell_heap (o := 5) hR rfl; have z0 := frozen_heap (o := 0) hR; have z1 := frozen_heap (o := 1) hR; have z2 := frozen_heap (o := 2) hR; have z3 := frozen_heap (o := 3) hR; have z4 := frozen_heap (o := 4) hR; have z5 := frozen_heap (o := 5) hR))))
  (clear r0 r1 r2 r3 r4 r5 z0 z1 z2 z3 z4 z5)
  go_loopw [14] (fun x wr => ∃ k : Nat, k ≤ kF ∧ x = .int .i64 (s.1 + k) ∧ Below w6.heap.size w6 wr) (fun x _ => kF - (intOf x - s.1).toNat)
  case atStart => exact ⟨0, by omega, by simp, Below.refl _ _⟩
  case round =>
    obtain ⟨k, hk, rfl, hb0⟩ := hrel
    replace hx0 := hx0.below hb0
    replace hx1 := hx1.below hb0
    replace hx2 := hx2.below hb0
    have hRr := heap_old hb0 hR
    have hKr := Below.next hK (Nat.le_refl _) hb0
    have hX := Lib.hid (fun w' u (h : Bnds w' u X) => hbt.out w' u (s.1 + k) h (by omega) (by omega))
    rcases Nat.lt_or_ge k kF with hlt | hge
    · have g4 := F4.out k hlt
      have hm : kF - (s.1 + (k : Int) + 1 - s.1).toNat < kF - (s.1 + (k : Int) - s.1).toNat := by omega
      generalize loR X (s.1 + k) (s.1 + k) = A2 at *
      generalize hiR X (s.1 + k) (s.1 + k) = B2 at *
      go_wp2_with (go_at_call 73; refine (hX.out _ _ hx0).mono ?_; rintro e w7 ⟨rfl, hb7⟩; have hB7 := Below.next hb0 (Nat.le_refl _) hb7)
      exact ⟨⟨k + 1, hlt, by rw [show s.1 + (k : Int) + 1 = s.1 + ((k + 1 : Nat) : Int) by omega], hB7⟩, by simpa [intOf] using hm⟩
    · obtain rfl : k = kF := by omega
      have g1 := F1.out
      generalize loR X (s.1 + k) (s.1 + k) = A2 at *
      generalize hiR X (s.1 + k) (s.1 + k) = B2 at *
      clear hb0
      go_wp2_with (go_at_call 73; refine (hX.out _ _ hx0).mono ?_; rintro e w7 ⟨rfl, hb7⟩; replace hKr := Below.next hKr (Nat.le_refl _) hb7; replace hRr := heap_old hb7 hRr; replace hx0 := hx0.below hb7; replace hx1 := hx1.below hb7; replace hx2 := hx2.below hb7; clear hb7)
      clear hX
      go_loopw [15] (fun x wr => ∃ j : Nat, kL ≤ j ∧ j ≤ 400 ∧ x = .int .i64 (s.1 + j) ∧ Below w7.heap.size w7 wr) (fun x _ => (intOf x - s.1).toNat)
      case atStart => exact ⟨400, by omega, by omega, rfl, Below.refl _ _⟩
      case round =>
        obtain ⟨j, hj1, hj2, rfl, hc0⟩ := hrel
        replace hx0 := hx0.below hc0
        replace hx1 := hx1.below hc0
        replace hx2 := hx2.below hc0
        have hRs := heap_old hc0 hRr
        have hKs := Below.next hKr (Nat.le_refl _) hc0
        have hY := Lib.hid (fun w' u (h : Bnds w' u X) => hbt.out w' u (s.1 + j) h (by omega) (by omega))
        rcases Nat.lt_or_ge kL j with hlt | hge
        · have g7 := F7.out j hlt hj2
          have hm : (s.1 + (j : Int) - 1 - s.1).toNat < (s.1 + (j : Int) - s.1).toNat := by omega
          generalize loR X (s.1 + j) (s.1 + j) = A3 at *
          generalize hiR X (s.1 + j) (s.1 + j) = B3 at *
          go_wp2_with (go_at_call 73; refine (hY.out _ _ hx0).mono ?_; rintro e w8 ⟨rfl, hb8⟩; have hB8 := Below.next hc0 (Nat.le_refl _) hb8)
          exact ⟨⟨j - 1, by omega, by omega, by rw [show s.1 + (j : Int) - 1 = s.1 + ((j - 1 : Nat) : Int) by omega], hB8⟩, by simpa [intOf] using hm⟩
        · obtain rfl : j = kL := by omega
          have g5 := F5.out
          generalize loR X (s.1 + j) (s.1 + j) = A3 at *
          generalize hiR X (s.1 + j) (s.1 + j) = B3 at *
          have e1 := HT1.out
          have e2 := HT2.out
          subst e1 e2
          clear hc0 F1 F4 F5 F7 hbt hEn
          go_wp2_with (go_at_call 73; refine (hY.out _ _ hx0).mono ?_; rintro e w8 ⟨rfl, hb8⟩; replace hKs := Below.next hKs (Nat.le_refl _) hb8; replace hRs := heap_old hb8 hRs; replace hx0 := hx0.below hb8; replace hx1 := hx1.below hb8; replace hx2 := hx2.below hb8; clear hb8)
          have hT0 := heap_new w8 (.cells #[.int .i64 (s.1 + (k : Int) - 1), .int .i64 (s.1 + (j : Int) + 1)] 34) rfl
          have hAl : Below w8.heap.size w8 (w8.alloc (.cells #[.int .i64 (s.1 + (k : Int) - 1), .int .i64 (s.1 + (j : Int) + 1)] 34)) := Below.alloc (Below.refl _ _) (Nat.le_refl _) _
          have hy1 := hx1.below hAl
          have hy2 := hx2.below hAl
          have hR9 := heap_alloc (X := .cells #[.int .i64 (s.1 + (k : Int) - 1), .int .i64 (s.1 + (j : Int) + 1)] 34) hRs
          have hK9 := hKs.alloc hKs.size (.cells #[.int .i64 (s.1 + (k : Int) - 1), .int .i64 (s.1 + (j : Int) + 1)] 34)
          apply region_gen 19 [] [0, 1, 2, 3, 4, 5, 6, 7, 8, 9, 10, 11, 12, 13, 14, 15, 16, 17, 18] [19, 20]; (case hm => kernel_rfl); (case hS => rfl); (case hF => kernel_rfl); (case hB => kernel_rfl); (case hQ => exact fun _ _ _ _ _ h => h); (case f => (exact rfl)); (case hz => exact rfl); (case h => (intro LQ hLQ W1 hW1; have hT1 := heap_old hW1 hT0; have q0 := cell_heap (o := 0) hT1 rfl; have q1 := cell_heap (o := 1) hT1 rfl; have hl1 := hy1.below hW1; have hl2 := hy2.below hW1; simp only [pickO, List.drop_succ_cons, List.drop_zero, List.take_succ_cons, List.take_zero, List.cons_append, List.nil_append, List.append_nil, Act.put, List.setIfInBounds_toArray, List.set_cons_succ, List.set_cons_zero]; have hl := @Later.cell; (repeat (go_big_quiet_step (first | (go_at_call_of 73 (u1); exact Calls.later (hdu1.out _ _ (hl1.below (later_below _)))) | (go_at_call_of 73 (u2); exact Calls.later (hdu2.out _ _ (hl2.below (later_below _)))) | (go_at_call 77; exact Calls.later (hfa.out _))))); exact wpQuiet_nil hLQ)); (intro W2 hW2; simp only [pickO, List.drop_succ_cons, List.drop_zero, List.take_succ_cons, List.take_zero, List.cons_append, List.nil_append, List.append_nil, Act.put, List.setIfInBounds_toArray, List.set_cons_succ, List.set_cons_zero])
          replace hR := heap_old hW2 hR9
          have hK4 := Below.next hK9 (Nat.le_refl _) hW2
          (have r0 := cell_heap (o := 0) hR rfl; have r1 := cell_heap (o := 1) hR rfl; have r2 := cell_heap (o := 2) hR rfl; have r3 := cell_heap (o := 3) hR rfl; have r4 := cell_heap (o := 4) hR rfl; have r5 := cell_heap (o := 5) hR rfl; have z0 := frozen_heap (o := 0) hR; have z1 := frozen_heap (o := 1) hR; have z2 := frozen_heap (o := 2) hR; have z3 := frozen_heap (o := 3) hR; have z4 := frozen_heap (o := 4) hR; have z5 := frozen_heap (o := 5) hR)
          go_wp2_with fail
          have hE := heap_set (o := 5) (v := .int .i64 zh) (heap_set (o := 4) (v := .int .i64 zl) (heap_set (o := 3) (v := .int .i64 yhi) (heap_set (o := 2) (v := .int .i64 ylo) (heap_set (o := 1) (v := .int .i64 (s.1 + (j : Int) + 1)) (heap_set (o := 0) (v := .int .i64 (s.1 + (k : Int) - 1)) hR)))))
          simp only [List.setIfInBounds_toArray, List.set_cons_succ, List.set_cons_zero] at hE
          have k0 := cell_heap (o := 0) hE rfl
          have k1 := cell_heap (o := 1) hE rfl
          have k2 := cell_heap (o := 2) hE rfl
          have k3 := cell_heap (o := 3) hE rfl
          have k4 := cell_heap (o := 4) hE rfl
          have k5 := cell_heap (o := 5) hE rfl
          refine bodyPost_ret (v := .tuple #[.agg #[.int .i64 (s.1 + (k : Int) - 1), .int .i64 (s.1 + (j : Int) + 1), .int .i64 ylo, .int .i64 yhi, .int .i64 zl, .int .i64 zh], .int .i64 0]) (by simp only [results, Try.results39]; go_simp) rfl ⟨rfl, ?_⟩
          exact Below.setCell (Below.setCell (Below.setCell (Below.setCell (Below.setCell (Below.setCell hK4 (Nat.le_refl _) _) (Nat.le_refl _) _) (Nat.le_refl _) _) (Nat.le_refl _) _) (Nat.le_refl _) _) (Nat.le_refl _) _
theorem rcross_any (v : Value) (l : List SN) (w : World) (h : Seens w v l) : Calls Try.prog 39 #[v] w fun e w' => e = .returned (crsV l) ∧ Below w.heap.size w w' := by
  by_cases hb : behE l = 0
  · cases hp : posB l with
    | false => exact rcross_bad v l w h (posOk_bad hb hp)
    | true =>
      cases hc : comes (bnds 0 (bhdL l)) with
      | false => exact rcross_order v l w h hb hp hc
      | true =>
        by_cases h4 : (lastB (bnds 0 (bhdL l))).2.1 ≤ 0 ∨ 0 ≤ hiR (bnds 0 (bhdL l)) ((lastB (bnds 0 (bhdL l))).1 + 400) ((lastB (bnds 0 (bhdL l))).1 + 400)
        · exact rcross_none v l w h hb hp hc h4
        · exact rcross_good v l w h hb hp hc h4
  · exact rcross_bad v l w h (posOk_beh hb)
end Go.Proofs.Ytmdledlbkdcmnaa

/-
  The walk of the statement on crossings.
  Conditions: none.
-/
namespace Go.Proofs.Ytmdledlbkdcmnaa
open Go.RowKit
theorem crsV_form (l : List SN) : ∃ x0 x1 x2 x3 x4 x5 : Int, crsV l = .tuple #[.agg #[.int .i64 x0, .int .i64 x1, .int .i64 x2, .int .i64 x3, .int .i64 x4, .int .i64 x5], .int .i64 (crsE l)] := by
  unfold crsV
  by_cases h : crsE l = 0
  · rw [if_pos h, h]; exact ⟨_, _, _, _, _, _, rfl⟩
  · rw [if_neg h]; exact ⟨_, _, _, _, _, _, rfl⟩
set_option maxRecDepth 100000 in
set_option maxHeartbeats 4000000 in
theorem pathCrosses_walk (v : Value) (l : List SN) (w : World) (h : Seens w v l) : Calls Try.prog 11 #[v] w fun e w' => e = .returned (.bool true) ∧ Below w.heap.size w w' := by
  have hf := Lib.hid (fun w' (h : Seens w' v l) => few_any v l w' h)
  have h1 := Lib.hid (fun w' (h : Seens w' v l) => cross_any v l w' h)
  have h2 := Lib.hid (fun w' (h : Seens w' v l) => rcross_any v l w' h)
  obtain ⟨x0, x1, x2, x3, x4, x5, e⟩ := crsV_form l
  rw [e] at h1 h2
  clear e
  generalize crsE l = E at *
  generalize fewB l = fb at *
  cases fb
  all_goals
    go_enter Try.func11, Try.ntmps11
    go_wp2_with (first
      | (go_at_call 28; refine (awake33_any _).mono ?_; rintro e w1 ⟨rfl, hK⟩)
      | (go_at_call 29; refine (hf.out _ (h.below hK)).mono ?_; rintro e w2 ⟨rfl, hb2⟩; replace hK := Below.next hK (Nat.le_refl _) hb2; clear hb2)
      | (go_at_call 38; refine (h1.out _ (h.below hK)).mono ?_; rintro e w3 ⟨rfl, hb3⟩; replace hK := Below.next hK (Nat.le_refl _) hb3; have hA := heap_new w3 (.cells #[.int .i64 x0, .int .i64 x1, .int .i64 x2, .int .i64 x3, .int .i64 x4, .int .i64 x5] 70) rfl)
      | (go_at_call 39; refine (h2.out _ (h.below (hK.alloc hK.size _))).mono ?_; rintro e w4 ⟨rfl, hb4⟩; replace hK := Below.next1 hK (Nat.le_refl _) hb4; replace hA := heap_old hb4 hA; have a0 := cell_heap (o := 0) hA rfl; have a1 := cell_heap (o := 1) hA rfl; have a2 := cell_heap (o := 2) hA rfl; have a3 := cell_heap (o := 3) hA rfl; have a4 := cell_heap (o := 4) hA rfl; have a5 := cell_heap (o := 5) hA rfl))
    go_ret
    first | exact ⟨rfl, hK⟩ | exact ⟨rfl, hK.alloc hK.size _⟩
end Go.Proofs.Ytmdledlbkdcmnaa
