/-
  Contracts of the reference's Possible and through.
  Conditions: none.
-/
import Derived.Test.YtmdledlbkdcmnaaPossible2
import Derived.LoopN
namespace Go.Proofs.Ytmdledlbkdcmnaa
open Go.RowKit
set_option maxRecDepth 100000 in
set_option maxHeartbeats 4000000 in
theorem rpos_any (v : Value) (l : List SN) (w : World) (h : Seens w v l) : Calls Try.prog 32 #[v] w fun e w' => e = .returned (posV l) ∧ Below w.heap.size w w' := by
  unfold posV posOk
  by_cases hb : behE l = 0
  · have hB0 := Lib.hid (fun w' (h : Seens w' v l) => by have := rbounds_any v l 0 w' h; rwa [bndE_in (by omega) (by omega), hb] at this)
    have hB1 := Lib.hid (fun w' (h : Seens w' v l) => by have := rbounds_any v l 1 w' h; rwa [bndE_in (by omega) (by omega), hb] at this)
    have hB2 := Lib.hid (fun w' (h : Seens w' v l) => by have := rbounds_any v l 2 w' h; rwa [bndE_in (by omega) (by omega), hb] at this)
    have hF0 := Lib.hid (fun w' u (h : Bnds w' u (bnds 0 (bhdL l))) => rpossible_any u _ w' h (bnds_ok (ax := 0)) (bnds_small 0 l))
    have hF1 := Lib.hid (fun w' u (h : Bnds w' u (bnds 1 (bhdL l))) => rpossible_any u _ w' h (bnds_ok (ax := 1)) (bnds_small 1 l))
    have hF2 := Lib.hid (fun w' u (h : Bnds w' u (bnds 2 (bhdL l))) => rpossible_any u _ w' h (bnds_ok (ax := 2)) (bnds_small 2 l))
    rw [hb]
    unfold posB
    clear hb
    generalize hX : bnds 0 (bhdL l) = X at *
    generalize hY : bnds 1 (bhdL l) = Y at *
    generalize hZ : bnds 2 (bhdL l) = Z at *
    clear hX hY hZ
    generalize fitsB X = fx at *
    generalize fitsB Y = fy at *
    generalize fitsB Z = fz at *
    cases fx <;> cases fy <;> cases fz
    all_goals
      go_enter Try.func32, Try.ntmps32
      go_wp2_with fail
      refine wp_loop_rounds 4 ?_
      rw [rounds_succ]
      go_wp2_with (first
        | (go_at_call_of 71 (Value.int IntKind.i64 0); refine (hB0.out _ (h.below (by repeat (first | with_reducible exact Below.refl _ _ | with_reducible assumption | with_reducible refine Below.drew ?_ | with_reducible refine Below.setCell ?_ (by first | omega | (simp; omega) | simp) _ | with_reducible refine Below.alloc ?_ (by first | omega | (simp; omega) | simp) _ | with_reducible refine Below.trans ?_ (Below.mono (by with_reducible assumption) (by first | omega | (simp; omega) | simp)))))).mono ?_; rintro e w2 ⟨x, rfl, hx', hK⟩; have hx := hx' (by first | rfl | trivial); clear hx')
        | (go_at_call_of 72 (x); refine (hF0.out _ _ hx).mono ?_; rintro e w2 ⟨rfl, hb2⟩; replace hK := Below.next hK (Nat.le_refl _) hb2; clear hb2))
      try (go_ret2; exact ⟨ret_p (by simp) rfl, hK⟩)
    all_goals
      rw [rounds_succ]
      go_wp2_with (first
        | (go_at_call_of 71 (Value.int IntKind.i64 1); refine (hB1.out _ (h.below hK)).mono ?_; rintro e w2 ⟨y, rfl, hx', hb2⟩; have hy := hx' (by first | rfl | trivial); clear hx'; replace hK := Below.next hK (Nat.le_refl _) hb2; clear hb2)
        | (go_at_call_of 72 (y); refine (hF1.out _ _ hy).mono ?_; rintro e w2 ⟨rfl, hb2⟩; replace hK := Below.next hK (Nat.le_refl _) hb2; clear hb2))
      try (go_ret2; exact ⟨ret_p (by simp) rfl, hK⟩)
    all_goals
      rw [rounds_succ]
      go_wp2_with (first
        | (go_at_call_of 71 (Value.int IntKind.i64 2); refine (hB2.out _ (h.below hK)).mono ?_; rintro e w2 ⟨z, rfl, hx', hb2⟩; have hz := hx' (by first | rfl | trivial); clear hx'; replace hK := Below.next hK (Nat.le_refl _) hb2; clear hb2)
        | (go_at_call_of 72 (z); refine (hF2.out _ _ hz).mono ?_; rintro e w2 ⟨rfl, hb2⟩; replace hK := Below.next hK (Nat.le_refl _) hb2; clear hb2))
      try (go_ret2; exact ⟨ret_p (by simp) rfl, hK⟩)
    all_goals
      rw [rounds_succ]
      go_wp2_with fail
      go_ret2
      exact ⟨ret_p (by simp) rfl, hK⟩
  · have hb' : (behE l != 0) = true := by simpa using hb
    have hd : decide (behE l = 0) = false := by simpa using hb
    have hB0 := Lib.hid (fun w' (h : Seens w' v l) => by have := rbounds_any v l 0 w' h; rwa [bndE_in (by omega) (by omega)] at this)
    rw [hd]
    clear hb hd
    generalize behE l = E at *
    go_enter Try.func32, Try.ntmps32
    go_wp2_with fail
    refine wp_loop_rounds 4 ?_
    rw [rounds_succ]
    go_wp2_with (go_at_call 71; refine (hB0.out _ (h.below (by repeat (first | with_reducible exact Below.refl _ _ | with_reducible assumption | with_reducible refine Below.drew ?_ | with_reducible refine Below.setCell ?_ (by first | omega | (simp; omega) | simp) _ | with_reducible refine Below.alloc ?_ (by first | omega | (simp; omega) | simp) _ | with_reducible refine Below.trans ?_ (Below.mono (by with_reducible assumption) (by first | omega | (simp; omega) | simp)))))).mono ?_; rintro e w2 ⟨x, rfl, hx', hK⟩; clear hx')
    go_ret2
    exact ⟨ret_p (by simp) rfl, hK⟩
theorem thr_num (u v : Int × Int) (t : Int) : -20000000000 ≤ u.2 → u.2 ≤ 20000000000 → -20000000000 ≤ v.2 → v.2 ≤ 20000000000 → 0 ≤ u.1 → u.1 ≤ 4000 → 0 ≤ v.1 → v.1 ≤ 4000 → -10 ≤ t → t ≤ 5000 →
    (-120000000000000 ≤ u.2 * (v.1 - t) ∧ u.2 * (v.1 - t) ≤ 120000000000000) ∧ (-120000000000000 ≤ v.2 * (t - u.1) ∧ v.2 * (t - u.1) ≤ 120000000000000) := by
  intro h1 h2 h3 h4 h5 h6 h7 h8 h9 h10
  have a := mul_bd (A := 20000000000) (B := 6000) (a := u.2) (b := v.1 - t) h1 h2 (by omega) (by omega)
  have b := mul_bd (A := 20000000000) (B := 6000) (a := v.2) (b := t - u.1) h3 h4 (by omega) (by omega)
  omega
set_option maxRecDepth 100000 in
set_option maxHeartbeats 4000000 in
theorem rthrough_up (t ta a tb b : Int) (hok : okN (ta, a, tb - ta, b - a)) (h1 : -20000000000 ≤ b) (h2 : b ≤ 20000000000) (h3 : tb ≤ 4000) (t1 : -10 ≤ t) (t2 : t ≤ 5000) (w : World) :
    Calls Try.prog 110 #[.int .i64 t, .int .i64 ta, .int .i64 a, .int .i64 tb, .int .i64 b, .bool true] w fun e w' => e = .returned (.int .i64 (ceL (ta, a, tb - ta, b - a) t)) ∧ Below w.heap.size w w' := by
  obtain ⟨⟨a1, a2⟩, ⟨b1, b2⟩, ⟨c1, c2⟩, _⟩ := hok
  dsimp only at a1 a2 b1 b2 c1 c2
  obtain ⟨⟨m1, m2⟩, m3, m4⟩ := thr_num (ta, a) (tb, b) t b1 b2 h1 h2 a1 a2 (by dsimp only; omega) h3 t1 t2
  dsimp only at m1 m2 m3 m4
  have hf := Lib.hid (fun w => rceildiv_any (a * (tb - t) + b * (t - ta)) (tb - ta) (by omega) (by omega) (by omega) (by omega) w)
  rw [← thr_ceil (u := (ta, a)) (v := (tb, b)) t (by dsimp only; omega)]
  dsimp only
  generalize -(-(a * (tb - t) + b * (t - ta)) / (tb - ta)) = q at *
  go_enter Try.func110, Try.ntmps110
  go_wp2_with (go_at_call 125; refine (hf.out _).mono ?_; rintro e w' ⟨rfl, hb⟩; (try clear hc hf); (try clear hcM hfM); (try clear hcN hfN); (first | ((first | replace hB := Below.next hB (Nat.le_refl _) hb | replace hB := Below.next1 hB (Nat.le_refl _) hb | replace hB := Below.next2 hB (Nat.le_refl _) hb); (first | replace hM := Below.next hM (Nat.le_refl _) hb | replace hM := Below.next1 hM (Nat.le_refl _) hb | replace hM := Below.next2 hM (Nat.le_refl _) hb); (first | replace hN := Below.next hN (Nat.le_refl _) hb | replace hN := Below.next1 hN (Nat.le_refl _) hb | replace hN := Below.next2 hN (Nat.le_refl _) hb)) | ((first | replace hB := Below.next hB (Nat.le_refl _) hb | replace hB := Below.next1 hB (Nat.le_refl _) hb | replace hB := Below.next2 hB (Nat.le_refl _) hb); (first | replace hM := Below.next hM (Nat.le_refl _) hb | replace hM := Below.next1 hM (Nat.le_refl _) hb | replace hM := Below.next2 hM (Nat.le_refl _) hb); have hN := Below.mid hb) | ((first | replace hB := Below.next hB (Nat.le_refl _) hb | replace hB := Below.next1 hB (Nat.le_refl _) hb | replace hB := Below.next2 hB (Nat.le_refl _) hb); (first | replace hM := Below.next hM (Nat.le_refl _) hb | replace hM := Below.next1 hM (Nat.le_refl _) hb | replace hM := Below.next2 hM (Nat.le_refl _) hb)) | ((first | replace hB := Below.next hB (Nat.le_refl _) hb | replace hB := Below.next1 hB (Nat.le_refl _) hb | replace hB := Below.next2 hB (Nat.le_refl _) hb); have hM := Below.mid hb) | (first | replace hB := Below.next hB (Nat.le_refl _) hb | replace hB := Below.next1 hB (Nat.le_refl _) hb | replace hB := Below.next2 hB (Nat.le_refl _) hb) | have hB := hb); obtain ⟨hc, hf, hz⟩ := after hB; (try (have hq := after hM; obtain ⟨hcM, hfM, hzM⟩ := hq)); (try (have hq := after hN; obtain ⟨hcN, hfN, hzN⟩ := hq)); have hs := hb.size; (try simp at hz); (try simp at hs))
  go_ret
  exact ⟨rfl, (by repeat (first | with_reducible exact Below.refl _ _ | with_reducible assumption | with_reducible refine Below.drew ?_ | with_reducible refine Below.setCell ?_ (by first | omega | (simp; omega) | simp) _ | with_reducible refine Below.alloc ?_ (by first | omega | (simp; omega) | simp) _ | with_reducible refine Below.trans ?_ (Below.mono (by with_reducible assumption) (by first | omega | (simp; omega) | simp))))⟩
set_option maxRecDepth 100000 in
set_option maxHeartbeats 4000000 in
theorem rthrough_down (t ta a tb b : Int) (hok : okN (ta, a, tb - ta, b - a)) (h1 : -20000000000 ≤ b) (h2 : b ≤ 20000000000) (h3 : tb ≤ 4000) (t1 : -10 ≤ t) (t2 : t ≤ 5000) (w : World) :
    Calls Try.prog 110 #[.int .i64 t, .int .i64 ta, .int .i64 a, .int .i64 tb, .int .i64 b, .bool false] w fun e w' => e = .returned (.int .i64 (flL (ta, a, tb - ta, b - a) t)) ∧ Below w.heap.size w w' := by
  obtain ⟨⟨a1, a2⟩, ⟨b1, b2⟩, ⟨c1, c2⟩, _⟩ := hok
  dsimp only at a1 a2 b1 b2 c1 c2
  obtain ⟨⟨m1, m2⟩, m3, m4⟩ := thr_num (ta, a) (tb, b) t b1 b2 h1 h2 a1 a2 (by dsimp only; omega) h3 t1 t2
  dsimp only at m1 m2 m3 m4
  have hf := Lib.hid (fun w => rfloordiv_any (a * (tb - t) + b * (t - ta)) (tb - ta) (by omega) (by omega) (by omega) (by omega) w)
  rw [← thr_floor (u := (ta, a)) (v := (tb, b)) t (by dsimp only; omega)]
  dsimp only
  generalize (a * (tb - t) + b * (t - ta)) / (tb - ta) = q at *
  go_enter Try.func110, Try.ntmps110
  go_wp2_with (go_at_call 126; refine (hf.out _).mono ?_; rintro e w' ⟨rfl, hb⟩; (try clear hc hf); (try clear hcM hfM); (try clear hcN hfN); (first | ((first | replace hB := Below.next hB (Nat.le_refl _) hb | replace hB := Below.next1 hB (Nat.le_refl _) hb | replace hB := Below.next2 hB (Nat.le_refl _) hb); (first | replace hM := Below.next hM (Nat.le_refl _) hb | replace hM := Below.next1 hM (Nat.le_refl _) hb | replace hM := Below.next2 hM (Nat.le_refl _) hb); (first | replace hN := Below.next hN (Nat.le_refl _) hb | replace hN := Below.next1 hN (Nat.le_refl _) hb | replace hN := Below.next2 hN (Nat.le_refl _) hb)) | ((first | replace hB := Below.next hB (Nat.le_refl _) hb | replace hB := Below.next1 hB (Nat.le_refl _) hb | replace hB := Below.next2 hB (Nat.le_refl _) hb); (first | replace hM := Below.next hM (Nat.le_refl _) hb | replace hM := Below.next1 hM (Nat.le_refl _) hb | replace hM := Below.next2 hM (Nat.le_refl _) hb); have hN := Below.mid hb) | ((first | replace hB := Below.next hB (Nat.le_refl _) hb | replace hB := Below.next1 hB (Nat.le_refl _) hb | replace hB := Below.next2 hB (Nat.le_refl _) hb); (first | replace hM := Below.next hM (Nat.le_refl _) hb | replace hM := Below.next1 hM (Nat.le_refl _) hb | replace hM := Below.next2 hM (Nat.le_refl _) hb)) | ((first | replace hB := Below.next hB (Nat.le_refl _) hb | replace hB := Below.next1 hB (Nat.le_refl _) hb | replace hB := Below.next2 hB (Nat.le_refl _) hb); have hM := Below.mid hb) | (first | replace hB := Below.next hB (Nat.le_refl _) hb | replace hB := Below.next1 hB (Nat.le_refl _) hb | replace hB := Below.next2 hB (Nat.le_refl _) hb) | have hB := hb); obtain ⟨hc, hf, hz⟩ := after hB; (try (have hq := after hM; obtain ⟨hcM, hfM, hzM⟩ := hq)); (try (have hq := after hN; obtain ⟨hcN, hfN, hzN⟩ := hq)); have hs := hb.size; (try simp at hz); (try simp at hs))
  go_ret
  exact ⟨rfl, (by repeat (first | with_reducible exact Below.refl _ _ | with_reducible assumption | with_reducible refine Below.drew ?_ | with_reducible refine Below.setCell ?_ (by first | omega | (simp; omega) | simp) _ | with_reducible refine Below.alloc ?_ (by first | omega | (simp; omega) | simp) _ | with_reducible refine Below.trans ?_ (Below.mono (by with_reducible assumption) (by first | omega | (simp; omega) | simp))))⟩
end Go.Proofs.Ytmdledlbkdcmnaa
