/-
  Contract of the reference's Fit.
  Conditions: none.
-/
import Derived.Test.YtcppgigndpepnaaFit
namespace Go.Proofs.Ytcppgigndpepnaa
open Go.RowKit
set_option maxRecDepth 100000 in
set_option maxHeartbeats 4000000 in
theorem rfit_any (v : Value) (l : List SN) (w : World) (h : Seens w v l) : Calls Try.prog 33 #[v] w fun e w' => e = .returned (fitV l) ∧ Below w.heap.size w w' := by
  obtain ⟨i0, hi0, hz0, hz1, hz2⟩ := info_parts (P := Try.prog) (e := 83) (z := zeroP) (size := 2) (bytes := 16) (by kernel_rfl)
  by_cases hc : chkE l = 0
  · have hc' : (chkE l != 0) = false := by simp [hc]
    have hC := Lib.hid hc
    clear hc
    go_enter Try.func33, Try.ntmps33
    go_wp2_with (first | (go_at_call 66; refine (rcheck_any _ _ _ (h.below (by repeat (first | with_reducible exact Below.refl _ _ | with_reducible assumption | with_reducible refine Below.drew ?_ | with_reducible refine Below.setCell ?_ (by first | omega | (simp; omega) | simp) _ | with_reducible refine Below.alloc ?_ (by first | omega | (simp; omega) | simp) _ | with_reducible refine Below.trans ?_ (Below.mono (by with_reducible assumption) (by first | omega | (simp; omega) | simp)))))).mono ?_; rintro e w1 ⟨⟨k0, rfl⟩, hb1⟩) | (go_at_call 67; refine (rbehind_any _ _ _ ((h.below (by repeat (first | with_reducible exact Below.refl _ _ | with_reducible assumption | with_reducible refine Below.drew ?_ | with_reducible refine Below.setCell ?_ (by first | omega | (simp; omega) | simp) _ | with_reducible refine Below.alloc ?_ (by first | omega | (simp; omega) | simp) _ | with_reducible refine Below.trans ?_ (Below.mono (by with_reducible assumption) (by first | omega | (simp; omega) | simp))))).below hb1)).mono ?_; rintro e w2 ⟨u, rfl, hs2, hb2⟩; have hR2 := heap_old hb2 (heap_old hb1 (heap_new w (.cells #[.int .i64 0, .int .i64 0, .int .i64 0, .int .i64 0, .int .i64 0, .int .i64 0, .int .i64 0, .int .i64 0, .int .i64 0] 48) rfl)); have hB2 : Below w.heap.size w w2 := Below.next (Below.next1 (Below.refl _ _) (Nat.le_refl _) hb1) (Nat.le_refl _) hb2; obtain ⟨pa, b, o, cap, rfl, g1, g2, g3, g4⟩ := hs2))
    have hl64 := bhd_len l
    have hok := Lib.hid (bhd_ok (l := l))
    have hcap : cap ≤ 9223372036854775807 := by unfold maxLen at g3; omega
    clear hb1 hb2
    go_loopw [6, 7, 8, 29] (fun x y z i wr => ∃ k : Nat, k ≤ (bhdL l).length ∧ i = .int .i64 k ∧ Below w2.heap.size w2 wr ∧ Own3 83 w2.heap.size wr x y z (((bhdL l).take k).map tX) (((bhdL l).take k).map tY) (((bhdL l).take k).map tZ)) (fun _ _ _ i _ => (bhdL l).length - (intOf i).toNat)
    case atStart => exact ⟨0, by omega, rfl, Below.refl _ _, by simpa using Own3.nil _ _ _⟩
    case round =>
      obtain ⟨k, hk, rfl, hb0, hO⟩ := hrel
      rcases Nat.lt_or_ge k (bhdL l).length with hlt | hge
      · obtain rfl := g1 (by omega)
        obtain ⟨s, hs⟩ : ∃ s, (bhdL l)[k]? = some s := ⟨_, List.getElem?_eq_getElem hlt⟩
        obtain ⟨c0, c1, c2, c3, c4⟩ := (g4 k s hs).below hb0
        have hks := Lib.hid (hok.out s (List.mem_of_getElem? hs))
        have hTX := Lib.hid (take_next tX hs)
        have hTY := Lib.hid (take_next tY hs)
        have hTZ := Lib.hid (take_next tZ hs)
        have hlX : (((bhdL l).take k).map tX).length = k := by rw [List.length_map, List.length_take]; omega
        have hlY : (((bhdL l).take k).map tY).length = k := by rw [List.length_map, List.length_take]; omega
        have hlZ : (((bhdL l).take k).map tZ).length = k := by rw [List.length_map, List.length_take]; omega
        have hn : (bhdL l).length - (k + 1) < (bhdL l).length - k := by omega
        have hsz := hb0.size
        have hhk := Lib.hid hk
        clear hs hk
        generalize ((bhdL l).take k).map tX = X at *
        generalize ((bhdL l).take k).map tY = Y at *
        generalize ((bhdL l).take k).map tZ = Z at *
        go_wp2_with (first
          | (at_builtin; refine wpList_append_own_at _ rfl _ _ 33 rfl w2.heap.size 83 i0 zeroP 2 16 Try.underlying33 hi0 hz0 hz1 hz2 rfl (by decide) _ _ _ rfl ((hO.alloc _).alloc _).hx ⟨wr.heap.size + 1, 0, none⟩ 1 1 (cells2 (tX s)) rfl rfl ?_ (fun x hx => by simp [cells2] at hx; rcases hx with rfl | rfl <;> rfl) (by unfold maxLen; omega) (by omega) (by simp; omega) ?_; rotate_left; intro x' w3 ho3 hg3 hn3 ha3; have hO3 := ((hO.alloc _).alloc _).pushX (p := tX s) ho3 hg3 ha3; have hS3 := grown_heap hg3 (heap_alloc (heap_new wr (.cells #[.int .i64 s.1, .int .i64 s.2.1, .int .i64 s.2.2.1, .int .i64 s.2.2.2.1, .int .i64 s.2.2.2.2] 62) rfl)) (own_ne hO.hx (Nat.le_refl _)); have s30 := cell_heap (o := 0) hS3 rfl; have s32 := cell_heap (o := 2) hS3 rfl; have hz3 : w2.heap.size ≤ w3.heap.size := by have := hg3.size; simp at this; omega)
          | (at_builtin; refine wpList_append_own_at _ rfl _ _ 33 rfl w2.heap.size 83 i0 zeroP 2 16 Try.underlying33 hi0 hz0 hz1 hz2 rfl (by decide) _ _ _ rfl (hO3.alloc _).hy ⟨w3.heap.size, 0, none⟩ 1 1 (cells2 (tY s)) rfl rfl ?_ (fun x hx => by simp [cells2] at hx; rcases hx with rfl | rfl <;> rfl) (by unfold maxLen; omega) (by omega) (by simp; omega) ?_; rotate_left; intro y' w4 ho4 hg4 hn4 ha4; have hO4 := (hO3.alloc _).pushY (p := tY s) ho4 hg4 ha4; have hS4 := grown_heap hg4 (heap_alloc hS3) (own_ne hO.hy (Nat.le_refl _)); have s40 := cell_heap (o := 0) hS4 rfl; have s43 := cell_heap (o := 3) hS4 rfl; have hz4 : w2.heap.size ≤ w4.heap.size := by have := hg4.size; simp at this; omega))
        rotate_left
        · exact fun _ _ h => h
        · exact fun _ _ h => h
        have hl := @Later.cell
        have hr1 := (raise_bd s.1 s.2.2.2.1).1
        have hr2 := (raise_bd s.1 s.2.2.2.1).2
        refine region_first_tail 10 _ _ (by kernel_rfl) (by kernel_rfl) rfl rfl rfl (fun _ _ _ h => h) ?_; simp only [List.take_succ_cons, List.take_zero, List.drop_succ_cons, List.drop_zero, Act.put, Act.eval, List.setIfInBounds_toArray, List.set_cons_succ, List.set_cons_zero, Array.getD_eq_getD_getElem?, List.getElem?_toArray, List.getElem?_cons_succ, List.getElem?_cons_zero, Option.getD_some]; (repeat (go_big_quiet_step (first | (go_at_call 31; exact Calls.later_same (rraise_any _ _ _)) | (go_at_call 68; exact Calls.later (nearest_any _ hr1 hr2 _))))); refine wpQuiet_nil ?_; rintro _ ⟨x, rfl⟩; obtain ⟨w', hb⟩ := x; (try clear hc hf); (try clear hcM hfM); (try clear hcN hfN); (first | ((first | replace hB := Below.next hB (Nat.le_refl _) hb | replace hB := Below.next1 hB (Nat.le_refl _) hb | replace hB := Below.next2 hB (Nat.le_refl _) hb); (first | replace hM := Below.next hM (Nat.le_refl _) hb | replace hM := Below.next1 hM (Nat.le_refl _) hb | replace hM := Below.next2 hM (Nat.le_refl _) hb); (first | replace hN := Below.next hN (Nat.le_refl _) hb | replace hN := Below.next1 hN (Nat.le_refl _) hb | replace hN := Below.next2 hN (Nat.le_refl _) hb)) | ((first | replace hB := Below.next hB (Nat.le_refl _) hb | replace hB := Below.next1 hB (Nat.le_refl _) hb | replace hB := Below.next2 hB (Nat.le_refl _) hb); (first | replace hM := Below.next hM (Nat.le_refl _) hb | replace hM := Below.next1 hM (Nat.le_refl _) hb | replace hM := Below.next2 hM (Nat.le_refl _) hb); have hN := Below.mid hb) | ((first | replace hB := Below.next hB (Nat.le_refl _) hb | replace hB := Below.next1 hB (Nat.le_refl _) hb | replace hB := Below.next2 hB (Nat.le_refl _) hb); (first | replace hM := Below.next hM (Nat.le_refl _) hb | replace hM := Below.next1 hM (Nat.le_refl _) hb | replace hM := Below.next2 hM (Nat.le_refl _) hb)) | ((first | replace hB := Below.next hB (Nat.le_refl _) hb | replace hB := Below.next1 hB (Nat.le_refl _) hb | replace hB := Below.next2 hB (Nat.le_refl _) hb); have hM := Below.mid hb) | (first | replace hB := Below.next hB (Nat.le_refl _) hb | replace hB := Below.next1 hB (Nat.le_refl _) hb | replace hB := Below.next2 hB (Nat.le_refl _) hb) | have hB := hb); obtain ⟨hc, hf, hz⟩ := after hB; (try (have hq := after hM; obtain ⟨hcM, hfM, hzM⟩ := hq)); (try (have hq := after hN; obtain ⟨hcN, hfN, hzN⟩ := hq)); have hs := hb.size; (try simp at hz); (try simp at hs)
        have hO5 := hO4.below hb
        have hz5 : w2.heap.size ≤ w'.heap.size := by have := hb.size; omega
        go_wp2_with (at_builtin; refine wpList_append_own_at _ rfl _ _ 33 rfl w2.heap.size 83 i0 zeroP 2 16 Try.underlying33 hi0 hz0 hz1 hz2 rfl (by decide) _ _ _ rfl (hO5.alloc _).hz ⟨w'.heap.size, 0, none⟩ 1 1 (cells2 (tZ s)) rfl rfl ?_ (fun x hx => by simp [cells2] at hx; rcases hx with rfl | rfl <;> rfl) (by unfold maxLen; omega) (by omega) (by simp; omega) ?_; rotate_left; intro z' w6 ho6 hg6 hn6 ha6; have hO6 := (hO5.alloc _).pushZ (p := tZ s) ho6 hg6 ha6)
        · have hB3 : Below w2.heap.size w2 w3 := ((hb0.alloc hsz _).alloc (by simp; omega) _).grown hg3 (by simp; omega) (fun q hq => (hO.hx.lt q hq).1)
          have hB4 : Below w2.heap.size w2 w4 := (hB3.alloc hz3 _).grown hg4 (by simp; omega) (fun q hq => (hO3.hy.lt q hq).1)
          have hB5 := Below.next hB4 (Nat.le_refl _) hb
          have hB6 : Below w2.heap.size w2 w6 := (hB5.alloc hz5 _).grown hg6 (by simp; omega) (fun q hq => (hO5.hz.lt q hq).1)
          exact ⟨⟨k + 1, hlt, by simp, hB6, by rw [hTX.out, hTY.out, hTZ.out]; exact hO6⟩, by simpa [intOf] using hn⟩
        · exact cells_new _ _ _
      · obtain rfl : k = (bhdL l).length := by omega
        simp only [List.take_length] at hO
        obtain ⟨px, cx, rfl⟩ := own_slice hO.hx
        obtain ⟨py, cy, rfl⟩ := own_slice hO.hy
        obtain ⟨pz, cz, rfl⟩ := own_slice hO.hz
        have hPX := own_pts hO.hx
        have hPY := own_pts hO.hy
        have hPZ := own_pts hO.hz
        have hsz := hb0.size
        have hszw := hB2.size
        have hR := heap_old hb0 hR2
        have hltR : w.heap.size < wr.heap.size := (Array.getElem?_eq_some_iff.1 hR).1
        have hK := Below.next hB2 (Nat.le_refl _) hb0
        have HB : Below wr.heap.size wr wr := Below.refl _ _
        have q1 : ∀ w v, Pts w v ((bhdL l).map tX) → Calls Try.prog 26 #[v] w fun e w' => e = .returned (.tuple #[lnV (bhdL l) tX, .int .i64 (lnE (bhdL l))]) ∧ Below w.heap.size w w' := fun w v h => by rw [← lineV_map (f := tX) (fun _ => rfl) (fun s hs => (okS_pts (hok.out s hs)).1) hl64]; exact rline_any v _ w h
        have q2 : ∀ w v, Pts w v ((bhdL l).map tY) → Calls Try.prog 26 #[v] w fun e w' => e = .returned (.tuple #[lnV (bhdL l) tY, .int .i64 (lnE (bhdL l))]) ∧ Below w.heap.size w w' := fun w v h => by rw [← lineV_map (f := tY) (fun _ => rfl) (fun s hs => (okS_pts (hok.out s hs)).2.1) hl64]; exact rline_any v _ w h
        have q3 : ∀ w v, Pts w v ((bhdL l).map tZ) → Calls Try.prog 26 #[v] w fun e w' => e = .returned (.tuple #[lnV (bhdL l) tZ, .int .i64 (lnE (bhdL l))]) ∧ Below w.heap.size w w' := fun w v h => by rw [← lineV_map (f := tZ) (fun _ => rfl) (fun s hs => (okS_pts (hok.out s hs)).2.2) hl64]; exact rline_any v _ w h
        simp only [List.length_map] at hPX hPY hPZ ⊢
        clear g1 g2 g3 g4 hR2 hO
        by_cases he : lnE (bhdL l) = 0
        · have eV : fitV l = .tuple #[.agg #[.int .i64 (fA ((bhdL l).map tX)), .int .i64 (fB ((bhdL l).map tX)), .int .i64 (fD ((bhdL l).map tX)), .int .i64 (fA ((bhdL l).map tY)), .int .i64 (fB ((bhdL l).map tY)), .int .i64 (fD ((bhdL l).map tY)), .int .i64 (fA ((bhdL l).map tZ)), .int .i64 (fB ((bhdL l).map tZ)), .int .i64 (fD ((bhdL l).map tZ))], .int .i64 0] := by
            have : fitE l = 0 := by unfold fitE; rw [if_neg (fun h => h hC.out), he]
            unfold fitV; rw [if_pos this]
          rw [lnV_ok he, he] at q1 q2 q3
          have EV := Lib.hid eV
          have L1 := Lib.hid q1
          have L2 := Lib.hid q2
          have L3 := Lib.hid q3
          clear q1 q2 q3 he eV
          generalize fA ((bhdL l).map tX) = xa at *
          generalize fB ((bhdL l).map tX) = xb at *
          generalize fD ((bhdL l).map tX) = xd at *
          generalize fA ((bhdL l).map tY) = ya at *
          generalize fB ((bhdL l).map tY) = yb at *
          generalize fD ((bhdL l).map tY) = yd at *
          generalize fA ((bhdL l).map tZ) = za at *
          generalize fB ((bhdL l).map tZ) = zb at *
          generalize fD ((bhdL l).map tZ) = zd at *
          go_wp2_with (first
            | (go_at_call_of 26 (px); refine (L1.out _ _ hPX).mono ?_; rintro e v1 ⟨rfl, hb1⟩; replace HB : Below wr.heap.size wr v1 := Below.trans (by repeat (first | with_reducible exact Below.refl _ _ | with_reducible assumption | refine Below.setCell ?_ (by first | omega | (simp; done) | (simp; omega)) _ | refine Below.alloc ?_ (by first | omega | (simp; done) | (simp; omega)) _)) (hb1.mono (by first | (simp; done) | (simp; omega) | omega)); have hq1 := hb1.size; (try simp at hq1); have hp1 := HB.size; replace hR := heap_old hb1 hR)
            | (go_at_call_of 26 (py); refine (L2.out _ _ (hPY.below (by repeat (first | with_reducible exact Below.refl _ _ | with_reducible assumption | refine Below.setCell ?_ (by first | omega | (simp; done) | (simp; omega)) _ | refine Below.alloc ?_ (by first | omega | (simp; done) | (simp; omega)) _)))).mono ?_; rintro e v2 ⟨rfl, hb2⟩; replace HB : Below wr.heap.size wr v2 := Below.trans (by repeat (first | with_reducible exact Below.refl _ _ | with_reducible assumption | refine Below.setCell ?_ (by first | omega | (simp; done) | (simp; omega)) _ | refine Below.alloc ?_ (by first | omega | (simp; done) | (simp; omega)) _)) (hb2.mono (by first | (simp; done) | (simp; omega) | omega)); have hq2 := hb2.size; (try simp at hq2); have hp2 := HB.size; have hA := heap_old hb2 (heap_new v1 (.cells #[.int .i64 xa, .int .i64 xb, .int .i64 xd] 35) rfl); replace hR := heap_old hb2 (heap_alloc hR))
            | (go_at_call_of 26 (pz); refine (L3.out _ _ (hPZ.below (by repeat (first | with_reducible exact Below.refl _ _ | with_reducible assumption | refine Below.setCell ?_ (by first | omega | (simp; done) | (simp; omega)) _ | refine Below.alloc ?_ (by first | omega | (simp; done) | (simp; omega)) _)))).mono ?_; rintro e v3 ⟨rfl, hb3⟩; replace HB : Below wr.heap.size wr v3 := Below.trans (by repeat (first | with_reducible exact Below.refl _ _ | with_reducible assumption | refine Below.setCell ?_ (by first | omega | (simp; done) | (simp; omega)) _ | refine Below.alloc ?_ (by first | omega | (simp; done) | (simp; omega)) _)) (hb3.mono (by first | (simp; done) | (simp; omega) | omega)); have hq3 := hb3.size; (try simp at hq3); have hp3 := HB.size; have hC3 := heap_old hb3 (heap_new v2 (.cells #[.int .i64 ya, .int .i64 yb, .int .i64 yd] 35) rfl); replace hA := heap_old hb3 (heap_alloc hA); replace hR := heap_old hb3 (heap_alloc hR); have a0 := cell_heap (o := 0) hA rfl; have c0 := cell_heap (o := 0) hC3 rfl; have a1 := cell_heap (o := 1) hA rfl; have c1 := cell_heap (o := 1) hC3 rfl; have a2 := cell_heap (o := 2) hA rfl; have c2 := cell_heap (o := 2) hC3 rfl; have r0 := cell_heap (o := 0) hR rfl; have f0 := frozen_heap (o := 0) hR; have r1 := cell_heap (o := 1) hR rfl; have f1 := frozen_heap (o := 1) hR; have r2 := cell_heap (o := 2) hR rfl; have f2 := frozen_heap (o := 2) hR; have r3 := cell_heap (o := 3) hR rfl; have f3 := frozen_heap (o := 3) hR; have r4 := cell_heap (o := 4) hR rfl; have f4 := frozen_heap (o := 4) hR; have r5 := cell_heap (o := 5) hR rfl; have f5 := frozen_heap (o := 5) hR; have r6 := cell_heap (o := 6) hR rfl; have f6 := frozen_heap (o := 6) hR; have r7 := cell_heap (o := 7) hR rfl; have f7 := frozen_heap (o := 7) hR; have r8 := cell_heap (o := 8) hR rfl; have f8 := frozen_heap (o := 8) hR; have hK3 := Below.next hK (Nat.le_refl _) HB))
          rw [EV.out]
          refine bodyPost_ret (v := .tuple #[.agg #[.int .i64 xa, .int .i64 xb, .int .i64 xd, .int .i64 ya, .int .i64 yb, .int .i64 yd, .int .i64 za, .int .i64 zb, .int .i64 zd], .int .i64 0]) (by simp only [results, Try.results33]; go_simp) rfl ⟨rfl, (by repeat (first | with_reducible exact Below.refl _ _ | with_reducible assumption | with_reducible refine Below.drew ?_ | with_reducible refine Below.setCell ?_ (by first | omega | (simp; omega) | simp) _ | with_reducible refine Below.alloc ?_ (by first | omega | (simp; omega) | simp) _ | with_reducible refine Below.trans ?_ (Below.mono (by with_reducible assumption) (by first | omega | (simp; omega) | simp))))⟩
        · have eV : fitV l = .tuple #[.agg #[.int .i64 0, .int .i64 0, .int .i64 0, .int .i64 0, .int .i64 0, .int .i64 0, .int .i64 0, .int .i64 0, .int .i64 0], .int .i64 (lnE (bhdL l))] := by
            have : fitE l = lnE (bhdL l) := by unfold fitE; rw [if_neg (fun h => h hC.out)]
            unfold fitV; rw [this, if_neg he]
          rw [lnV_bad he] at q1
          have he' : (lnE (bhdL l) != 0) = true := by simpa using he
          have EV := Lib.hid eV
          have L1 := Lib.hid q1
          clear q1 q2 q3 he eV
          generalize lnE (bhdL l) = E at *
          go_wp2_with (go_at_call_of 26 (px); refine (L1.out _ _ hPX).mono ?_; rintro e v1 ⟨rfl, hb1⟩; replace HB : Below wr.heap.size wr v1 := Below.trans (by repeat (first | with_reducible exact Below.refl _ _ | with_reducible assumption | refine Below.setCell ?_ (by first | omega | (simp; done) | (simp; omega)) _ | refine Below.alloc ?_ (by first | omega | (simp; done) | (simp; omega)) _)) (hb1.mono (by first | (simp; done) | (simp; omega) | omega)); have hq1 := hb1.size; (try simp at hq1); have hp1 := HB.size; replace hR := heap_old hb1 hR; have hK1 := Below.next hK (Nat.le_refl _) HB; have r0 := cell_heap (o := 0) hR rfl; have f0 := frozen_heap (o := 0) hR; have r1 := cell_heap (o := 1) hR rfl; have f1 := frozen_heap (o := 1) hR; have r2 := cell_heap (o := 2) hR rfl; have f2 := frozen_heap (o := 2) hR; have r3 := cell_heap (o := 3) hR rfl; have f3 := frozen_heap (o := 3) hR; have r4 := cell_heap (o := 4) hR rfl; have f4 := frozen_heap (o := 4) hR; have r5 := cell_heap (o := 5) hR rfl; have f5 := frozen_heap (o := 5) hR; have r6 := cell_heap (o := 6) hR rfl; have f6 := frozen_heap (o := 6) hR; have r7 := cell_heap (o := 7) hR rfl; have f7 := frozen_heap (o := 7) hR; have r8 := cell_heap (o := 8) hR rfl; have f8 := frozen_heap (o := 8) hR)
          rw [EV.out]
          refine bodyPost_ret (v := .tuple #[.agg #[.int .i64 0, .int .i64 0, .int .i64 0, .int .i64 0, .int .i64 0, .int .i64 0, .int .i64 0, .int .i64 0, .int .i64 0], .int .i64 E]) (by simp only [results, Try.results33]; go_simp) rfl ⟨rfl, (by repeat (first | with_reducible exact Below.refl _ _ | with_reducible assumption | with_reducible refine Below.drew ?_ | with_reducible refine Below.setCell ?_ (by first | omega | (simp; omega) | simp) _ | with_reducible refine Below.alloc ?_ (by first | omega | (simp; omega) | simp) _ | with_reducible refine Below.trans ?_ (Below.mono (by with_reducible assumption) (by first | omega | (simp; omega) | simp))))⟩
  · have eV : fitV l = .tuple #[.agg #[.int .i64 0, .int .i64 0, .int .i64 0, .int .i64 0, .int .i64 0, .int .i64 0, .int .i64 0, .int .i64 0, .int .i64 0], .int .i64 (chkE l)] := by
      have : fitE l = chkE l := by unfold fitE; rw [if_pos hc]
      unfold fitV; rw [this, if_neg hc]
    rw [eV]
    have hc' : (chkE l != 0) = true := by simpa using hc
    clear hc eV
    go_enter Try.func33, Try.ntmps33
    go_wp2_with (go_at_call 66; refine (rcheck_any _ _ _ (h.below (by repeat (first | with_reducible exact Below.refl _ _ | with_reducible assumption | with_reducible refine Below.drew ?_ | with_reducible refine Below.setCell ?_ (by first | omega | (simp; omega) | simp) _ | with_reducible refine Below.alloc ?_ (by first | omega | (simp; omega) | simp) _ | with_reducible refine Below.trans ?_ (Below.mono (by with_reducible assumption) (by first | omega | (simp; omega) | simp)))))).mono ?_; rintro e w1 ⟨⟨k0, rfl⟩, hb1⟩; have hR := heap_old hb1 (heap_new w (.cells #[.int .i64 0, .int .i64 0, .int .i64 0, .int .i64 0, .int .i64 0, .int .i64 0, .int .i64 0, .int .i64 0, .int .i64 0] 48) rfl); have hK1 : Below w.heap.size w w1 := Below.next1 (Below.refl _ _) (Nat.le_refl _) hb1; have r0 := cell_heap (o := 0) hR rfl; have f0 := frozen_heap (o := 0) hR; have r1 := cell_heap (o := 1) hR rfl; have f1 := frozen_heap (o := 1) hR; have r2 := cell_heap (o := 2) hR rfl; have f2 := frozen_heap (o := 2) hR; have r3 := cell_heap (o := 3) hR rfl; have f3 := frozen_heap (o := 3) hR; have r4 := cell_heap (o := 4) hR rfl; have f4 := frozen_heap (o := 4) hR; have r5 := cell_heap (o := 5) hR rfl; have f5 := frozen_heap (o := 5) hR; have r6 := cell_heap (o := 6) hR rfl; have f6 := frozen_heap (o := 6) hR; have r7 := cell_heap (o := 7) hR rfl; have f7 := frozen_heap (o := 7) hR; have r8 := cell_heap (o := 8) hR rfl; have f8 := frozen_heap (o := 8) hR)
    refine bodyPost_ret (v := .tuple #[.agg #[.int .i64 0, .int .i64 0, .int .i64 0, .int .i64 0, .int .i64 0, .int .i64 0, .int .i64 0, .int .i64 0, .int .i64 0], .int .i64 (chkE l)]) (by simp only [results, Try.results33]; go_simp) rfl ⟨rfl, (by repeat (first | with_reducible exact Below.refl _ _ | with_reducible assumption | with_reducible refine Below.drew ?_ | with_reducible refine Below.setCell ?_ (by first | omega | (simp; omega) | simp) _ | with_reducible refine Below.alloc ?_ (by first | omega | (simp; omega) | simp) _ | with_reducible refine Below.trans ?_ (Below.mono (by with_reducible assumption) (by first | omega | (simp; omega) | simp))))⟩
end Go.Proofs.Ytcppgigndpepnaa
