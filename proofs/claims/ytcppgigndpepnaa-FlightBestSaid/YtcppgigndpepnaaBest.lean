/-
  The walk of the statement on the lines for X and Y of a drawn path.
  Conditions: none.
-/
import Derived.Test.YtcppgigndpepnaaAccLaws
import Derived.Test.YtcppgigndpepnaaFlightLaws
namespace Go.Proofs.Ytcppgigndpepnaa
open Go.RowKit
theorem ptsE0_map {L : List SN} {f : SN → PT} (h : ∀ s ∈ L, okP (f s) = true) (hl : L.length ≤ 64) (he : lnE L = 0) : ptsE (L.map f) = 0 := by
  rw [ptsE_map h hl]
  unfold lnE at he
  split at he
  · omega
  · rename_i h2; rw [if_neg h2]
theorem fit_best {l : List SN} (he : fitE l = 0) : accB (fA ((bhdL l).map tX)) (fB ((bhdL l).map tX)) (fD ((bhdL l).map tX)) ((bhdL l).map tX) = true ∧ accB (fA ((bhdL l).map tY)) (fB ((bhdL l).map tY)) (fD ((bhdL l).map tY)) ((bhdL l).map tY) = true := by
  have hln : lnE (bhdL l) = 0 := by
    unfold fitE at he
    split at he
    · rename_i h; exact absurd he h
    · exact he
  have hX : ptsE ((bhdL l).map tX) = 0 := ptsE0_map (fun s hs => (okS_pts (bhd_ok s hs)).1) (bhd_len l) hln
  have hY : ptsE ((bhdL l).map tY) = 0 := ptsE0_map (fun s hs => (okS_pts (bhd_ok s hs)).2.1) (bhd_len l) hln
  have hd : fD ((bhdL l).map tX) ≠ 0 := by
    unfold lnE at hln
    split at hln
    · omega
    · split at hln
      · omega
      · assumption
  have hd2 : fD ((bhdL l).map tY) ≠ 0 := by rw [fD_map (f := tY) (g := tX) (fun _ => rfl)]; exact hd
  exact ⟨accB_best hX hd, accB_best hY hd2⟩
set_option maxRecDepth 100000 in
set_option maxHeartbeats 4000000 in
theorem flightBest_walk (v : Value) (l : List SN) (w : World) (h : Seens w v l) : Calls Try.prog 14 #[v] w fun e w' => e = .returned (.bool true) ∧ Below w.heap.size w w' := by
  obtain ⟨i0, hi0, hz0, hz1, hz2⟩ := info_parts (P := Try.prog) (e := 72) (z := zeroP) (size := 2) (bytes := 16) (by kernel_rfl)
  have h0 := h
  obtain ⟨pa, b, o, cap, rfl, g1, g2, g3, g4⟩ := h
  clear g1 g4
  have hcap : cap ≤ 9223372036854775807 := by unfold maxLen at g3; omega
  rcases Nat.lt_or_ge 200 l.length with hlt | hge
  · go_enter Try.func14, Try.ntmps14
    go_wp2_with (go_at_call 29; refine (awake32_any _).mono ?_; rintro e w' ⟨rfl, hb⟩; (try clear hc hf); (try clear hcM hfM); (try clear hcN hfN); (first | ((first | replace hB := Below.next hB (Nat.le_refl _) hb | replace hB := Below.next1 hB (Nat.le_refl _) hb | replace hB := Below.next2 hB (Nat.le_refl _) hb); (first | replace hM := Below.next hM (Nat.le_refl _) hb | replace hM := Below.next1 hM (Nat.le_refl _) hb | replace hM := Below.next2 hM (Nat.le_refl _) hb); (first | replace hN := Below.next hN (Nat.le_refl _) hb | replace hN := Below.next1 hN (Nat.le_refl _) hb | replace hN := Below.next2 hN (Nat.le_refl _) hb)) | ((first | replace hB := Below.next hB (Nat.le_refl _) hb | replace hB := Below.next1 hB (Nat.le_refl _) hb | replace hB := Below.next2 hB (Nat.le_refl _) hb); (first | replace hM := Below.next hM (Nat.le_refl _) hb | replace hM := Below.next1 hM (Nat.le_refl _) hb | replace hM := Below.next2 hM (Nat.le_refl _) hb); have hN := Below.mid hb) | ((first | replace hB := Below.next hB (Nat.le_refl _) hb | replace hB := Below.next1 hB (Nat.le_refl _) hb | replace hB := Below.next2 hB (Nat.le_refl _) hb); (first | replace hM := Below.next hM (Nat.le_refl _) hb | replace hM := Below.next1 hM (Nat.le_refl _) hb | replace hM := Below.next2 hM (Nat.le_refl _) hb)) | ((first | replace hB := Below.next hB (Nat.le_refl _) hb | replace hB := Below.next1 hB (Nat.le_refl _) hb | replace hB := Below.next2 hB (Nat.le_refl _) hb); have hM := Below.mid hb) | (first | replace hB := Below.next hB (Nat.le_refl _) hb | replace hB := Below.next1 hB (Nat.le_refl _) hb | replace hB := Below.next2 hB (Nat.le_refl _) hb) | have hB := hb); obtain ⟨hc, hf, hz⟩ := after hB; (try (have hq := after hM; obtain ⟨hcM, hfM, hzM⟩ := hq)); (try (have hq := after hN; obtain ⟨hcN, hfN, hzN⟩ := hq)); have hs := hb.size; (try simp at hz); (try simp at hs))
    go_ret
    exact ⟨rfl, (by repeat (first | with_reducible exact Below.refl _ _ | with_reducible assumption | with_reducible refine Below.drew ?_ | with_reducible refine Below.setCell ?_ (by first | omega | (simp; omega) | simp) _ | with_reducible refine Below.alloc ?_ (by first | omega | (simp; omega) | simp) _ | with_reducible refine Below.trans ?_ (Below.mono (by with_reducible assumption) (by first | omega | (simp; omega) | simp))))⟩
  by_cases he : fitE l = 0
  · obtain ⟨ax, ay⟩ := fit_best he
    have hf := fun v' w' (h : Seens w' v' l) => fit_any v' l w' h
    have eV : fitV l = .tuple #[.agg #[.int .i64 (fA ((bhdL l).map tX)), .int .i64 (fB ((bhdL l).map tX)), .int .i64 (fD ((bhdL l).map tX)), .int .i64 (fA ((bhdL l).map tY)), .int .i64 (fB ((bhdL l).map tY)), .int .i64 (fD ((bhdL l).map tY)), .int .i64 (fA ((bhdL l).map tZ)), .int .i64 (fB ((bhdL l).map tZ)), .int .i64 (fD ((bhdL l).map tZ))], .int .i64 0] := by unfold fitV; rw [if_pos he]
    simp only [eV] at hf
    have q1 := fun v' w' (h : Pts w' v' ((bhdL l).map tX)) => accept_any (fA ((bhdL l).map tX)) (fB ((bhdL l).map tX)) (fD ((bhdL l).map tX)) v' _ w' h
    have q2 := fun v' w' (h : Pts w' v' ((bhdL l).map tY)) => accept_any (fA ((bhdL l).map tY)) (fB ((bhdL l).map tY)) (fD ((bhdL l).map tY)) v' _ w' h
    simp only [ax] at q1
    simp only [ay] at q2
    have HF := Lib.hid hf
    have Q1 := Lib.hid q1
    have Q2 := Lib.hid q2
    clear hf eV q1 q2 ax ay he
    generalize fA ((bhdL l).map tX) = xa at *
    generalize fB ((bhdL l).map tX) = xb at *
    generalize fD ((bhdL l).map tX) = xd at *
    generalize fA ((bhdL l).map tY) = ya at *
    generalize fB ((bhdL l).map tY) = yb at *
    generalize fD ((bhdL l).map tY) = yd at *
    generalize fA ((bhdL l).map tZ) = za at *
    generalize fB ((bhdL l).map tZ) = zb at *
    generalize fD ((bhdL l).map tZ) = zd at *
    go_enter Try.func14, Try.ntmps14
    go_wp2_with (first
      | (go_at_call 29; refine (awake32_any _).mono ?_; rintro e w' ⟨rfl, hb⟩; (try clear hc hf); (try clear hcM hfM); (try clear hcN hfN); (first | ((first | replace hB := Below.next hB (Nat.le_refl _) hb | replace hB := Below.next1 hB (Nat.le_refl _) hb | replace hB := Below.next2 hB (Nat.le_refl _) hb); (first | replace hM := Below.next hM (Nat.le_refl _) hb | replace hM := Below.next1 hM (Nat.le_refl _) hb | replace hM := Below.next2 hM (Nat.le_refl _) hb); (first | replace hN := Below.next hN (Nat.le_refl _) hb | replace hN := Below.next1 hN (Nat.le_refl _) hb | replace hN := Below.next2 hN (Nat.le_refl _) hb)) | ((first | replace hB := Below.next hB (Nat.le_refl _) hb | replace hB := Below.next1 hB (Nat.le_refl _) hb | replace hB := Below.next2 hB (Nat.le_refl _) hb); (first | replace hM := Below.next hM (Nat.le_refl _) hb | replace hM := Below.next1 hM (Nat.le_refl _) hb | replace hM := Below.next2 hM (Nat.le_refl _) hb); have hN := Below.mid hb) | ((first | replace hB := Below.next hB (Nat.le_refl _) hb | replace hB := Below.next1 hB (Nat.le_refl _) hb | replace hB := Below.next2 hB (Nat.le_refl _) hb); (first | replace hM := Below.next hM (Nat.le_refl _) hb | replace hM := Below.next1 hM (Nat.le_refl _) hb | replace hM := Below.next2 hM (Nat.le_refl _) hb)) | ((first | replace hB := Below.next hB (Nat.le_refl _) hb | replace hB := Below.next1 hB (Nat.le_refl _) hb | replace hB := Below.next2 hB (Nat.le_refl _) hb); have hM := Below.mid hb) | (first | replace hB := Below.next hB (Nat.le_refl _) hb | replace hB := Below.next1 hB (Nat.le_refl _) hb | replace hB := Below.next2 hB (Nat.le_refl _) hb) | have hB := hb); obtain ⟨hc, hf, hz⟩ := after hB; (try (have hq := after hM; obtain ⟨hcM, hfM, hzM⟩ := hq)); (try (have hq := after hN; obtain ⟨hcN, hfN, hzN⟩ := hq)); have hs := hb.size; (try simp at hz); (try simp at hs))
      | (go_at_call 32; refine (HF.out _ _ (h0.below hB)).mono ?_; rintro e w1 ⟨rfl, hb1⟩; have hK := Below.next hB (Nat.le_refl _) hb1; have hs1 := hK.size)
      | (go_at_call 44; refine (behind_any _ _ _ (h0.below (hK.alloc hs1 _))).mono ?_; rintro e w2 ⟨u, rfl, hs2, hb2⟩; have hF2 := heap_old hb2 (heap_new w1 _ rfl); replace hK := Below.next1 hK (Nat.le_refl _) hb2; obtain ⟨qa, qb, qo, qc, rfl, k1, k2, k3, k4⟩ := hs2))
    have hl64 := bhd_len l
    have hqc : qc ≤ 9223372036854775807 := by unfold maxLen at k3; omega
    go_loopw [5, 6, 27] (fun x y i wr => ∃ k : Nat, k ≤ (bhdL l).length ∧ i = .int .i64 k ∧ Below w2.heap.size w2 wr ∧ Own3 72 w2.heap.size wr x y (.slice none 0 0) (((bhdL l).take k).map tX) (((bhdL l).take k).map tY) []) (fun _ _ i _ => (bhdL l).length - (intOf i).toNat)
    case atStart => exact ⟨0, by omega, rfl, Below.refl _ _, by simpa using Own3.nil _ _ _⟩
    case round =>
      obtain ⟨k, hk, rfl, hb0, hO⟩ := hrel
      rcases Nat.lt_or_ge k (bhdL l).length with hlt | hge
      · obtain rfl := k1 (by omega)
        obtain ⟨s, hs⟩ : ∃ s, (bhdL l)[k]? = some s := ⟨_, List.getElem?_eq_getElem hlt⟩
        obtain ⟨c0, c1, c2, c3, c4⟩ := (k4 k s hs).below hb0
        have hTX := Lib.hid (take_next tX hs)
        have hTY := Lib.hid (take_next tY hs)
        have hlX : (((bhdL l).take k).map tX).length = k := by rw [List.length_map, List.length_take]; omega
        have hlY : (((bhdL l).take k).map tY).length = k := by rw [List.length_map, List.length_take]; omega
        have hn : (bhdL l).length - (k + 1) < (bhdL l).length - k := by omega
        have hsz := hb0.size
        have hhk := Lib.hid hk
        clear hs hk
        generalize ((bhdL l).take k).map tX = X at *
        generalize ((bhdL l).take k).map tY = Y at *
        go_wp2_with (first
          | (at_builtin; refine wpList_append_own_at _ rfl _ _ 38 rfl w2.heap.size 72 i0 zeroP 2 16 Try.underlying38 hi0 hz0 hz1 hz2 rfl (by decide) _ _ _ rfl ((hO.alloc _).alloc _).hx ⟨wr.heap.size + 1, 0, none⟩ 1 1 (cells2 (tX s)) rfl rfl ?_ (fun x hx => by simp [cells2] at hx; rcases hx with rfl | rfl <;> rfl) (by unfold maxLen; omega) (by omega) (by simp; omega) ?_; rotate_left; intro x' w3 ho3 hg3 hn3 ha3; have hO3 := ((hO.alloc _).alloc _).pushX (p := tX s) ho3 hg3 ha3; have hS3 := grown_heap hg3 (heap_alloc (heap_new wr (.cells #[.int .i64 s.1, .int .i64 s.2.1, .int .i64 s.2.2.1, .int .i64 s.2.2.2.1, .int .i64 s.2.2.2.2] 62) rfl)) (own_ne hO.hx (Nat.le_refl _)); have s30 := cell_heap (o := 0) hS3 rfl; have s32 := cell_heap (o := 2) hS3 rfl; have hz3 : w2.heap.size ≤ w3.heap.size := by have := hg3.size; simp at this; omega)
          | (at_builtin; refine wpList_append_own_at _ rfl _ _ 38 rfl w2.heap.size 72 i0 zeroP 2 16 Try.underlying38 hi0 hz0 hz1 hz2 rfl (by decide) _ _ _ rfl (hO3.alloc _).hy ⟨w3.heap.size, 0, none⟩ 1 1 (cells2 (tY s)) rfl rfl ?_ (fun x hx => by simp [cells2] at hx; rcases hx with rfl | rfl <;> rfl) (by unfold maxLen; omega) (by omega) (by simp; omega) ?_; rotate_left; intro y' w4 ho4 hg4 hn4 ha4; have hO4 := (hO3.alloc _).pushY (p := tY s) ho4 hg4 ha4))
        · have hB3 : Below w2.heap.size w2 w3 := ((hb0.alloc hsz _).alloc (by simp; omega) _).grown hg3 (by simp; omega) (fun q hq => (hO.hx.lt q hq).1)
          have hB4 : Below w2.heap.size w2 w4 := (hB3.alloc hz3 _).grown hg4 (by simp; omega) (fun q hq => (hO3.hy.lt q hq).1)
          exact ⟨⟨k + 1, hlt, by simp, hB4, by rw [hTX.out, hTY.out]; exact hO4⟩, by simpa [intOf] using hn⟩
        · exact fun _ _ h => h
        · exact fun _ _ h => h
      · obtain rfl : k = (bhdL l).length := by omega
        simp only [List.take_length] at hO
        have hPX := own_pts hO.hx
        have hPY := own_pts hO.hy
        have hKK := Below.next hK (Nat.le_refl _) hb0
        have hF3 := heap_old hb0 hF2
        have f0 := cell_heap (o := 0) hF3 rfl
        have f1 := cell_heap (o := 1) hF3 rfl
        have f2 := cell_heap (o := 2) hF3 rfl
        have f3 := cell_heap (o := 3) hF3 rfl
        have f4 := cell_heap (o := 4) hF3 rfl
        have f5 := cell_heap (o := 5) hF3 rfl
        have f6 := cell_heap (o := 6) hF3 rfl
        have f7 := cell_heap (o := 7) hF3 rfl
        have f8 := cell_heap (o := 8) hF3 rfl
        clear k1 k2 k3 k4
        go_wp2_with (first
          | (go_at_call_of 43 (xa); refine (Q1.out _ _ hPX).mono ?_; rintro e w5 ⟨rfl, hb5⟩; replace hKK := Below.next hKK (Nat.le_refl _) hb5; replace hPY := hPY.below hb5; replace hF3 := heap_old hb5 hF3; clear f0 f1 f2 f3 f4 f5 f6 f7 f8; have f0 := cell_heap (o := 0) hF3 rfl; have f1 := cell_heap (o := 1) hF3 rfl; have f2 := cell_heap (o := 2) hF3 rfl; have f3 := cell_heap (o := 3) hF3 rfl; have f4 := cell_heap (o := 4) hF3 rfl; have f5 := cell_heap (o := 5) hF3 rfl; have f6 := cell_heap (o := 6) hF3 rfl; have f7 := cell_heap (o := 7) hF3 rfl; have f8 := cell_heap (o := 8) hF3 rfl)
          | (go_at_call_of 43 (ya); refine (Q2.out _ _ hPY).mono ?_; rintro e w6 ⟨rfl, hb6⟩; replace hKK := Below.next hKK (Nat.le_refl _) hb6))
        go_ret
        exact ⟨rfl, hKK⟩
  · have eV : fitV l = .tuple #[.agg #[.int .i64 0, .int .i64 0, .int .i64 0, .int .i64 0, .int .i64 0, .int .i64 0, .int .i64 0, .int .i64 0, .int .i64 0], .int .i64 (fitE l)] := by unfold fitV; rw [if_neg he]
    have hf := fun v' w' (h : Seens w' v' l) => fit_any v' l w' h
    simp only [eV] at hf
    have HF := Lib.hid hf
    have hE1 : (fitE l != 0) = true := by simpa using he
    clear hf eV he
    generalize fitE l = E at *
    go_enter Try.func14, Try.ntmps14
    go_wp2_with (first
      | (go_at_call 29; refine (awake32_any _).mono ?_; rintro e w' ⟨rfl, hb⟩; (try clear hc hf); (try clear hcM hfM); (try clear hcN hfN); (first | ((first | replace hB := Below.next hB (Nat.le_refl _) hb | replace hB := Below.next1 hB (Nat.le_refl _) hb | replace hB := Below.next2 hB (Nat.le_refl _) hb); (first | replace hM := Below.next hM (Nat.le_refl _) hb | replace hM := Below.next1 hM (Nat.le_refl _) hb | replace hM := Below.next2 hM (Nat.le_refl _) hb); (first | replace hN := Below.next hN (Nat.le_refl _) hb | replace hN := Below.next1 hN (Nat.le_refl _) hb | replace hN := Below.next2 hN (Nat.le_refl _) hb)) | ((first | replace hB := Below.next hB (Nat.le_refl _) hb | replace hB := Below.next1 hB (Nat.le_refl _) hb | replace hB := Below.next2 hB (Nat.le_refl _) hb); (first | replace hM := Below.next hM (Nat.le_refl _) hb | replace hM := Below.next1 hM (Nat.le_refl _) hb | replace hM := Below.next2 hM (Nat.le_refl _) hb); have hN := Below.mid hb) | ((first | replace hB := Below.next hB (Nat.le_refl _) hb | replace hB := Below.next1 hB (Nat.le_refl _) hb | replace hB := Below.next2 hB (Nat.le_refl _) hb); (first | replace hM := Below.next hM (Nat.le_refl _) hb | replace hM := Below.next1 hM (Nat.le_refl _) hb | replace hM := Below.next2 hM (Nat.le_refl _) hb)) | ((first | replace hB := Below.next hB (Nat.le_refl _) hb | replace hB := Below.next1 hB (Nat.le_refl _) hb | replace hB := Below.next2 hB (Nat.le_refl _) hb); have hM := Below.mid hb) | (first | replace hB := Below.next hB (Nat.le_refl _) hb | replace hB := Below.next1 hB (Nat.le_refl _) hb | replace hB := Below.next2 hB (Nat.le_refl _) hb) | have hB := hb); obtain ⟨hc, hf, hz⟩ := after hB; (try (have hq := after hM; obtain ⟨hcM, hfM, hzM⟩ := hq)); (try (have hq := after hN; obtain ⟨hcN, hfN, hzN⟩ := hq)); have hs := hb.size; (try simp at hz); (try simp at hs))
      | (go_at_call 32; refine (HF.out _ _ (h0.below hB)).mono ?_; rintro e w1 ⟨rfl, hb1⟩; have hK := Below.next hB (Nat.le_refl _) hb1; have hs1 := hK.size))
    go_ret
    exact ⟨rfl, hK.alloc hs1 _⟩
end Go.Proofs.Ytcppgigndpepnaa
