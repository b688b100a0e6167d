/-
  Contract of the reference's Line.
  Conditions: none.
-/
import Derived.Test.YtcppgigndpepnaaLine
namespace Go.Proofs.Ytcppgigndpepnaa
open Go.RowKit
set_option maxRecDepth 100000 in
set_option maxHeartbeats 4000000 in
theorem rline_good (v : Value) (ps : List PT) (w : World) (h : Pts w v ps) (he : ptsE ps = 0) : Calls Try.prog 26 #[v] w fun e w' => e = .returned (lineV ps) ∧ Below w.heap.size w w' := by
  have h0 := h
  obtain ⟨pa, b, o, cap, rfl, h1, h2, h3, h4⟩ := h
  have hE := Lib.hid he
  obtain ⟨_, l64, _⟩ := ptsE_all he
  go_enter Try.func26, Try.ntmps26
  go_wp2_with (go_at_call 59; refine (rpoints_any _ _ _ (h0.below (by repeat (first | with_reducible exact Below.refl _ _ | with_reducible assumption | with_reducible refine Below.drew ?_ | with_reducible refine Below.setCell ?_ (by first | omega | (simp; omega) | simp) _ | with_reducible refine Below.alloc ?_ (by first | omega | (simp; omega) | simp) _ | with_reducible refine Below.trans ?_ (Below.mono (by with_reducible assumption) (by first | omega | (simp; omega) | simp)))))).mono ?_; rintro e w' ⟨rfl, hb⟩; (try clear hc hf); (try clear hcM hfM); (try clear hcN hfN); (first | ((first | replace hB := Below.next hB (Nat.le_refl _) hb | replace hB := Below.next1 hB (Nat.le_refl _) hb | replace hB := Below.next2 hB (Nat.le_refl _) hb); (first | replace hM := Below.next hM (Nat.le_refl _) hb | replace hM := Below.next1 hM (Nat.le_refl _) hb | replace hM := Below.next2 hM (Nat.le_refl _) hb); (first | replace hN := Below.next hN (Nat.le_refl _) hb | replace hN := Below.next1 hN (Nat.le_refl _) hb | replace hN := Below.next2 hN (Nat.le_refl _) hb)) | ((first | replace hB := Below.next hB (Nat.le_refl _) hb | replace hB := Below.next1 hB (Nat.le_refl _) hb | replace hB := Below.next2 hB (Nat.le_refl _) hb); (first | replace hM := Below.next hM (Nat.le_refl _) hb | replace hM := Below.next1 hM (Nat.le_refl _) hb | replace hM := Below.next2 hM (Nat.le_refl _) hb); have hN := Below.mid hb) | ((first | replace hB := Below.next hB (Nat.le_refl _) hb | replace hB := Below.next1 hB (Nat.le_refl _) hb | replace hB := Below.next2 hB (Nat.le_refl _) hb); (first | replace hM := Below.next hM (Nat.le_refl _) hb | replace hM := Below.next1 hM (Nat.le_refl _) hb | replace hM := Below.next2 hM (Nat.le_refl _) hb)) | ((first | replace hB := Below.next hB (Nat.le_refl _) hb | replace hB := Below.next1 hB (Nat.le_refl _) hb | replace hB := Below.next2 hB (Nat.le_refl _) hb); have hM := Below.mid hb) | (first | replace hB := Below.next hB (Nat.le_refl _) hb | replace hB := Below.next1 hB (Nat.le_refl _) hb | replace hB := Below.next2 hB (Nat.le_refl _) hb) | have hB := hb); obtain ⟨hc, hf, hz⟩ := after hB; (try (have hq := after hM; obtain ⟨hcM, hfM, hzM⟩ := hq)); (try (have hq := after hN; obtain ⟨hcN, hfN, hzN⟩ := hq)); have hs := hb.size; (try simp at hz); (try simp at hs))
  clear he
  go_loopw [6, 7, 8, 9, 23] (fun s q u y x wr => ∃ i : Nat, i ≤ ps.length ∧ x = .int .i64 i ∧ s = .int .i64 (sT (ps.take i)) ∧ q = .int .i64 (sQ (ps.take i)) ∧ u = .int .i64 (sV (ps.take i)) ∧ y = .int .i64 (sW (ps.take i)) ∧ Below w.heap.size w wr ∧ wr.heap[w.heap.size]? = some (.cells #[.int .i64 0, .int .i64 0, .int .i64 0] 35 (0, 0))) (fun _ _ _ _ x _ => ps.length - (intOf x).toNat)
  case atStart => exact ⟨0, by omega, rfl, rfl, rfl, rfl, rfl, (by repeat (first | with_reducible exact Below.refl _ _ | with_reducible assumption | with_reducible refine Below.drew ?_ | with_reducible refine Below.setCell ?_ (by first | omega | (simp; omega) | simp) _ | with_reducible refine Below.alloc ?_ (by first | omega | (simp; omega) | simp) _ | with_reducible refine Below.trans ?_ (Below.mono (by with_reducible assumption) (by first | omega | (simp; omega) | simp)))), heap_old hb (heap_new _ _ rfl)⟩
  case round =>
    obtain ⟨i, hi, rfl, rfl, rfl, rfl, rfl, hB, hr⟩ := hrel
    rcases Nat.lt_or_ge i ps.length with hlt | hge
    · obtain rfl := h1 (by omega)
      have hx := (after hB).1
      obtain ⟨p, hp⟩ : ∃ p, ps[i]? = some p := ⟨_, List.getElem?_eq_getElem hlt⟩
      obtain ⟨c0, c1⟩ := h4 i p hp
      replace c0 := (hx _ _ (by simp [c0])).trans c0
      replace c1 := (hx _ _ (by simp [c1])).trans c1
      have hs := hB.size
      obtain ⟨n1, n2, n3, n4⟩ := sums_next hp
      obtain ⟨⟨b1, b2⟩, ⟨b3, b4⟩, ⟨b5, b6⟩, b7, b8⟩ := take_bd hE.out i
      obtain ⟨⟨b9, b10⟩, ⟨b11, b12⟩, ⟨b13, b14⟩, b15, b16⟩ := pt_bd hE.out hp
      have hP := Lib.hid hp
      have hN := Lib.hid n1
      have hN2 := Lib.hid n2
      have hN3 := Lib.hid n3
      have hN4 := Lib.hid n4
      clear hp n1 n2 n3 n4
      have hn : ps.length - (i + 1) < ps.length - i := by omega
      go_wp2_with fail
      refine ⟨⟨i + 1, hlt, by simp, by rw [hN.out], by rw [hN2.out], by rw [hN3.out], by rw [hN4.out], ?_, ?_⟩, by simpa [intOf] using hn⟩
      · exact hB.alloc hs _
      · exact heap_alloc hr
    · obtain rfl : i = ps.length := by omega
      clear hge hi
      have hl := hE.out
      have hbd := line_bd hl
      obtain ⟨⟨b1, b2⟩, ⟨b3, b4⟩, ⟨b5, b6⟩, ⟨b7, b8⟩, ⟨b9, b10⟩, b11, b12⟩ := hbd
      have hs := hB.size
      clear hl h4 h0
      have hlt : w.heap.size < wr.heap.size := (Array.getElem?_eq_some_iff.1 hr).1
      have q0 := cell_heap (o := 0) hr rfl
      have q1 := cell_heap (o := 1) hr rfl
      have q2 := cell_heap (o := 2) hr rfl
      have f0 := frozen_heap (o := 0) hr
      have f1 := frozen_heap (o := 1) hr
      have f2 := frozen_heap (o := 2) hr
      simp only [List.take_length]
      go_wp2_with fail
      · have hd : fD ps = 0 := of_t ‹_›
        refine bodyPost_ret (v := .tuple #[.agg #[.int .i64 0, .int .i64 0, .int .i64 0], .int .i64 14]) (by simp only [results, Try.results26]; go_simp) rfl ⟨by rw [lineV_s hE.out hd], (by repeat (first | with_reducible exact Below.refl _ _ | with_reducible assumption | with_reducible refine Below.drew ?_ | with_reducible refine Below.setCell ?_ (by first | omega | (simp; omega) | simp) _ | with_reducible refine Below.alloc ?_ (by first | omega | (simp; omega) | simp) _ | with_reducible refine Below.trans ?_ (Below.mono (by with_reducible assumption) (by first | omega | (simp; omega) | simp))))⟩
      · have hd : fD ps ≠ 0 := of_f ‹_›
        refine bodyPost_ret (v := .tuple #[.agg #[.int .i64 (sQ ps * sV ps - sT ps * sW ps), .int .i64 (ps.length * sW ps - sT ps * sV ps), .int .i64 (ps.length * sQ ps - sT ps * sT ps)], .int .i64 0]) (by simp only [results, Try.results26]; go_simp) rfl ⟨by rw [lineV_ok hE.out hd]; rfl, (by repeat (first | with_reducible exact Below.refl _ _ | with_reducible assumption | with_reducible refine Below.drew ?_ | with_reducible refine Below.setCell ?_ (by first | omega | (simp; omega) | simp) _ | with_reducible refine Below.alloc ?_ (by first | omega | (simp; omega) | simp) _ | with_reducible refine Below.trans ?_ (Below.mono (by with_reducible assumption) (by first | omega | (simp; omega) | simp))))⟩
set_option maxHeartbeats 1000000 in
theorem rline_any (v : Value) (ps : List PT) (w : World) (h : Pts w v ps) : Calls Try.prog 26 #[v] w fun e w' => e = .returned (lineV ps) ∧ Below w.heap.size w w' := by
  by_cases he : ptsE ps = 0
  · exact rline_good v ps w h he
  · have he' : (ptsE ps != 0) = true := by simpa using he
    have hE := Lib.hid he
    clear he
    go_enter Try.func26, Try.ntmps26
    go_wp2_with (go_at_call 59; refine (rpoints_any _ _ _ (h.below (by repeat (first | with_reducible exact Below.refl _ _ | with_reducible assumption | with_reducible refine Below.drew ?_ | with_reducible refine Below.setCell ?_ (by first | omega | (simp; omega) | simp) _ | with_reducible refine Below.alloc ?_ (by first | omega | (simp; omega) | simp) _ | with_reducible refine Below.trans ?_ (Below.mono (by with_reducible assumption) (by first | omega | (simp; omega) | simp)))))).mono ?_; rintro e w' ⟨rfl, hb⟩; (try clear hc hf); (try clear hcM hfM); (try clear hcN hfN); (first | ((first | replace hB := Below.next hB (Nat.le_refl _) hb | replace hB := Below.next1 hB (Nat.le_refl _) hb | replace hB := Below.next2 hB (Nat.le_refl _) hb); (first | replace hM := Below.next hM (Nat.le_refl _) hb | replace hM := Below.next1 hM (Nat.le_refl _) hb | replace hM := Below.next2 hM (Nat.le_refl _) hb); (first | replace hN := Below.next hN (Nat.le_refl _) hb | replace hN := Below.next1 hN (Nat.le_refl _) hb | replace hN := Below.next2 hN (Nat.le_refl _) hb)) | ((first | replace hB := Below.next hB (Nat.le_refl _) hb | replace hB := Below.next1 hB (Nat.le_refl _) hb | replace hB := Below.next2 hB (Nat.le_refl _) hb); (first | replace hM := Below.next hM (Nat.le_refl _) hb | replace hM := Below.next1 hM (Nat.le_refl _) hb | replace hM := Below.next2 hM (Nat.le_refl _) hb); have hN := Below.mid hb) | ((first | replace hB := Below.next hB (Nat.le_refl _) hb | replace hB := Below.next1 hB (Nat.le_refl _) hb | replace hB := Below.next2 hB (Nat.le_refl _) hb); (first | replace hM := Below.next hM (Nat.le_refl _) hb | replace hM := Below.next1 hM (Nat.le_refl _) hb | replace hM := Below.next2 hM (Nat.le_refl _) hb)) | ((first | replace hB := Below.next hB (Nat.le_refl _) hb | replace hB := Below.next1 hB (Nat.le_refl _) hb | replace hB := Below.next2 hB (Nat.le_refl _) hb); have hM := Below.mid hb) | (first | replace hB := Below.next hB (Nat.le_refl _) hb | replace hB := Below.next1 hB (Nat.le_refl _) hb | replace hB := Below.next2 hB (Nat.le_refl _) hb) | have hB := hb); obtain ⟨hc, hf, hz⟩ := after hB; (try (have hq := after hM; obtain ⟨hcM, hfM, hzM⟩ := hq)); (try (have hq := after hN; obtain ⟨hcN, hfN, hzN⟩ := hq)); have hs := hb.size; (try simp at hz); (try simp at hs))
    refine bodyPost_ret (v := .tuple #[.agg #[.int .i64 0, .int .i64 0, .int .i64 0], .int .i64 (ptsE ps)]) (by have c0 := hc (w.heap.size) 0 (by simp [go_sem]); simp [go_sem] at c0; have c1 := hc (w.heap.size) 1 (by simp [go_sem]); simp [go_sem] at c1; have c2 := hc (w.heap.size) 2 (by simp [go_sem]); simp [go_sem] at c2; simp only [results, Try.results26]; go_simp) rfl ⟨by rw [lineV_e hE.out], (by repeat (first | with_reducible exact Below.refl _ _ | with_reducible assumption | with_reducible refine Below.drew ?_ | with_reducible refine Below.setCell ?_ (by first | omega | (simp; omega) | simp) _ | with_reducible refine Below.alloc ?_ (by first | omega | (simp; omega) | simp) _ | with_reducible refine Below.trans ?_ (Below.mono (by with_reducible assumption) (by first | omega | (simp; omega) | simp))))⟩
end Go.Proofs.Ytcppgigndpepnaa
