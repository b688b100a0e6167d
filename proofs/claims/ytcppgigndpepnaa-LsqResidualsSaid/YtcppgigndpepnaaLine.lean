/-
  Contract of Line, ours and the reference's.
  Conditions: none.
-/
import Derived.Test.YtcppgigndpepnaaPts
import Derived.Test.YtcppgigndpepnaaStill
namespace Go.Proofs.Ytcppgigndpepnaa
open Go.RowKit
def lineV (ps : List PT) : Value := if ptsE ps ≠ 0 then .tuple #[.agg #[.int .i64 0, .int .i64 0, .int .i64 0], .int .i64 (ptsE ps)] else if fD ps = 0 then .tuple #[.agg #[.int .i64 0, .int .i64 0, .int .i64 0], .int .i64 14] else .tuple #[.agg #[.int .i64 (fA ps), .int .i64 (fB ps), .int .i64 (fD ps)], .int .i64 0]
theorem ptsE_all {ps : List PT} (h : ptsE ps = 0) : ps.all okP = true ∧ ps.length ≤ 64 ∧ 2 ≤ ps.length := by
  unfold ptsE at h
  split at h
  · omega
  · split at h
    · omega
    · split at h
      · rename_i h1 h2 h3; exact ⟨h3, by omega, by omega⟩
      · omega
theorem lineV_e {ps : List PT} (h : ptsE ps ≠ 0) : lineV ps = .tuple #[.agg #[.int .i64 0, .int .i64 0, .int .i64 0], .int .i64 (ptsE ps)] := by unfold lineV; rw [if_pos h]
theorem lineV_s {ps : List PT} (h : ptsE ps = 0) (hd : fD ps = 0) : lineV ps = .tuple #[.agg #[.int .i64 0, .int .i64 0, .int .i64 0], .int .i64 14] := by unfold lineV; rw [if_neg (fun h' => h' h), if_pos hd]
theorem lineV_ok {ps : List PT} (h : ptsE ps = 0) (hd : fD ps ≠ 0) : lineV ps = .tuple #[.agg #[.int .i64 (fA ps), .int .i64 (fB ps), .int .i64 (fD ps)], .int .i64 0] := by unfold lineV; rw [if_neg (fun h' => h' h), if_neg hd]
theorem of_t {a b : Int} (h : (a == b) = true) : a = b := by simpa using h
theorem of_f {a b : Int} (h : (a == b) = false) : a ≠ b := by simpa using h
theorem sums_next {ps : List PT} {i : Nat} {p : PT} (hp : ps[i]? = some p) : sT (ps.take (i + 1)) = sT (ps.take i) + p.1 ∧ sQ (ps.take (i + 1)) = sQ (ps.take i) + p.1 * p.1 ∧ sV (ps.take (i + 1)) = sV (ps.take i) + p.2 ∧ sW (ps.take (i + 1)) = sW (ps.take i) + p.1 * p.2 := by
  rw [List.take_add_one, hp]
  simp [sT_app, sQ_app, sV_app, sW_app, sT, sQ, sV, sW]
theorem take_bd {ps : List PT} (h : ptsE ps = 0) (i : Nat) : (0 ≤ sT (ps.take i) ∧ sT (ps.take i) ≤ 512000) ∧ (0 ≤ sQ (ps.take i) ∧ sQ (ps.take i) ≤ 4096000000) ∧ (-64000000 ≤ sV (ps.take i) ∧ sV (ps.take i) ≤ 64000000) ∧ (-512000000000 ≤ sW (ps.take i) ∧ sW (ps.take i) ≤ 512000000000) := by
  obtain ⟨h1, h2, _⟩ := ptsE_all h
  have hk : (ps.take i).all okP = true := List.all_eq_true.2 fun p hp => List.all_eq_true.1 h1 p (List.mem_of_mem_take hp)
  have hl : (ps.take i).length ≤ 64 := by rw [List.length_take]; omega
  have := pts_bd hk
  omega
theorem pt_bd {ps : List PT} (h : ptsE ps = 0) {i : Nat} {p : PT} (hp : ps[i]? = some p) : (0 ≤ p.1 ∧ p.1 ≤ 8000) ∧ (-1000000 ≤ p.2 ∧ p.2 ≤ 1000000) ∧ (0 ≤ p.1 * p.1 ∧ p.1 * p.1 ≤ 64000000) ∧ (-8000000000 ≤ p.1 * p.2 ∧ p.1 * p.2 ≤ 8000000000) := by
  obtain ⟨h1, _⟩ := ptsE_all h
  have hk := okP_iff (List.all_eq_true.1 h1 p (List.mem_of_getElem? hp))
  have q1 := mul_bd (A := 8000) (B := 8000) (a := p.1) (b := p.1) (by omega) (by omega) (by omega) (by omega)
  have q2 := mul_bd (A := 8000) (B := 1000000) (a := p.1) (b := p.2) (by omega) (by omega) (by omega) (by omega)
  have q3 := sq_nonneg p.1
  omega

set_option maxRecDepth 100000 in
set_option maxHeartbeats 4000000 in
theorem line_good (v : Value) (ps : List PT) (w : World) (h : Pts w v ps) (he : ptsE ps = 0) : Calls Try.prog 24 #[v] w fun e w' => e = .returned (lineV ps) ∧ Below w.heap.size w w' := by
  have h0 := h
  obtain ⟨pa, b, o, cap, rfl, h1, h2, h3, h4⟩ := h
  have hE := Lib.hid he
  obtain ⟨_, l64, _⟩ := ptsE_all he
  go_enter Try.func24, Try.ntmps24
  go_wp2_with (go_at_call 58; refine (points_any _ _ _ (h0.below (by repeat (first | with_reducible exact Below.refl _ _ | with_reducible assumption | with_reducible refine Below.drew ?_ | with_reducible refine Below.setCell ?_ (by first | omega | (simp; omega) | simp) _ | with_reducible refine Below.alloc ?_ (by first | omega | (simp; omega) | simp) _ | with_reducible refine Below.trans ?_ (Below.mono (by with_reducible assumption) (by first | omega | (simp; omega) | simp)))))).mono ?_; rintro e w' ⟨rfl, hb⟩; (try clear hc hf); (try clear hcM hfM); (try clear hcN hfN); (first | ((first | replace hB := Below.next hB (Nat.le_refl _) hb | replace hB := Below.next1 hB (Nat.le_refl _) hb | replace hB := Below.next2 hB (Nat.le_refl _) hb); (first | replace hM := Below.next hM (Nat.le_refl _) hb | replace hM := Below.next1 hM (Nat.le_refl _) hb | replace hM := Below.next2 hM (Nat.le_refl _) hb); (first | replace hN := Below.next hN (Nat.le_refl _) hb | replace hN := Below.next1 hN (Nat.le_refl _) hb | replace hN := Below.next2 hN (Nat.le_refl _) hb)) | ((first | replace hB := Below.next hB (Nat.le_refl _) hb | replace hB := Below.next1 hB (Nat.le_refl _) hb | replace hB := Below.next2 hB (Nat.le_refl _) hb); (first | replace hM := Below.next hM (Nat.le_refl _) hb | replace hM := Below.next1 hM (Nat.le_refl _) hb | replace hM := Below.next2 hM (Nat.le_refl _) hb); have hN := Below.mid hb) | ((first | replace hB := Below.next hB (Nat.le_refl _) hb | replace hB := Below.next1 hB (Nat.le_refl _) hb | replace hB := Below.next2 hB (Nat.le_refl _) hb); (first | replace hM := Below.next hM (Nat.le_refl _) hb | replace hM := Below.next1 hM (Nat.le_refl _) hb | replace hM := Below.next2 hM (Nat.le_refl _) hb)) | ((first | replace hB := Below.next hB (Nat.le_refl _) hb | replace hB := Below.next1 hB (Nat.le_refl _) hb | replace hB := Below.next2 hB (Nat.le_refl _) hb); have hM := Below.mid hb) | (first | replace hB := Below.next hB (Nat.le_refl _) hb | replace hB := Below.next1 hB (Nat.le_refl _) hb | replace hB := Below.next2 hB (Nat.le_refl _) hb) | have hB := hb); obtain ⟨hc, hf, hz⟩ := after hB; (try (have hq := after hM; obtain ⟨hcM, hfM, hzM⟩ := hq)); (try (have hq := after hN; obtain ⟨hcN, hfN, hzN⟩ := hq)); have hs := hb.size; (try simp at hz); (try simp at hs))
  clear he
  go_loopw [5, 6, 7, 8, 21] (fun s q u y x wr => ∃ i : Nat, i ≤ ps.length ∧ x = .int .i64 i ∧ s = .int .i64 (sT (ps.take i)) ∧ q = .int .i64 (sQ (ps.take i)) ∧ u = .int .i64 (sV (ps.take i)) ∧ y = .int .i64 (sW (ps.take i)) ∧ Below w.heap.size w wr ∧ wr.heap[w.heap.size]? = some (.cells #[.int .i64 0, .int .i64 0, .int .i64 0] 35 (0, 0))) (fun _ _ _ _ x _ => ps.length - (intOf x).toNat)
  case atStart => exact ⟨0, by omega, rfl, rfl, rfl, rfl, rfl, (by repeat (first | with_reducible exact Below.refl _ _ | with_reducible assumption | with_reducible refine Below.drew ?_ | with_reducible refine Below.setCell ?_ (by first | omega | (simp; omega) | simp) _ | with_reducible refine Below.alloc ?_ (by first | omega | (simp; omega) | simp) _ | with_reducible refine Below.trans ?_ (Below.mono (by with_reducible assumption) (by first | omega | (simp; omega) | simp)))), heap_old hb (heap_new _ _ rfl)⟩
  case round =>
    obtain ⟨i, hi, rfl, rfl, rfl, rfl, rfl, hB, hr⟩ := hrel
    rcases Nat.lt_or_ge i ps.length with hlt | hge
    · obtain rfl := h1 (by omega)
      have hx := (after hB).1
      obtain ⟨p, hp⟩ : ∃ p, ps[i]? = some p := ⟨_, List.getElem?_eq_getElem hlt⟩
      obtain ⟨c0, c1⟩ := h4 i p hp
      replace c0 := (hx _ _ (by simp [c0])).trans c0
      replace c1 := (hx _ _ (by simp [c1])).trans c1
      have hs := hB.size
      obtain ⟨n1, n2, n3, n4⟩ := sums_next hp
      obtain ⟨⟨b1, b2⟩, ⟨b3, b4⟩, ⟨b5, b6⟩, b7, b8⟩ := take_bd hE.out i
      obtain ⟨⟨b9, b10⟩, ⟨b11, b12⟩, ⟨b13, b14⟩, b15, b16⟩ := pt_bd hE.out hp
      have hP := Lib.hid hp
      have hN := Lib.hid n1
      have hN2 := Lib.hid n2
      have hN3 := Lib.hid n3
      have hN4 := Lib.hid n4
      clear hp n1 n2 n3 n4
      go_wp2_with fail
      have y0 : (wr.alloc (.cells #[.int .i64 p.1, .int .i64 p.2] 72)).cell? ⟨wr.heap.size, 0, none⟩ = some (.int .i64 p.1) := by simp [go_sem]
      have y1 : (wr.alloc (.cells #[.int .i64 p.1, .int .i64 p.2] 72)).cell? ⟨wr.heap.size, 1, none⟩ = some (.int .i64 p.2) := by simp [go_sem]
      refine region_still (by kernel_rfl) (by kernel_rfl) ?_; intro W' hW hC; have z0 := (hC ⟨wr.heap.size, 0, none⟩).trans (y0); have z1 := (hC ⟨wr.heap.size, 1, none⟩).trans (y1); replace hW := Lib.hid hW; clear hC; (repeat still_step); refine wpStill_nil ?_; obtain rfl := hW.out; clear hW
      have m1 : IntKind.i64.wrap (sT (ps.take i) + p.1) = sT (ps.take i) + p.1 := kwrap_id (by omega) (by omega)
      have m2 : IntKind.i64.wrap (p.1 * p.1) = p.1 * p.1 := kwrap_id (by omega) (by omega)
      have m3 : IntKind.i64.wrap (sQ (ps.take i) + p.1 * p.1) = sQ (ps.take i) + p.1 * p.1 := kwrap_id (by omega) (by omega)
      have m4 : IntKind.i64.wrap (sV (ps.take i) + p.2) = sV (ps.take i) + p.2 := kwrap_id (by omega) (by omega)
      have m5 : IntKind.i64.wrap (p.1 * p.2) = p.1 * p.2 := kwrap_id (by omega) (by omega)
      have m6 : IntKind.i64.wrap (sW (ps.take i) + p.1 * p.2) = sW (ps.take i) + p.1 * p.2 := kwrap_id (by omega) (by omega)
      simp only [m1, m2, m3, m4, m5, m6]
      clear m1 m2 m3 m4 m5 m6 z0 z1 y0 y1 b1 b2 b3 b4 b5 b6 b7 b8 b9 b10 b11 b12 b13 b14 b15 b16
      go_wp2_with fail
      have hn : ps.length - (i + 1) < ps.length - i := by omega
      refine ⟨⟨i + 1, hlt, by simp, by rw [hN.out], by rw [hN2.out], by rw [hN3.out], by rw [hN4.out], ?_, ?_⟩, by simpa [intOf] using hn⟩
      · exact (hB.alloc hs _).drew
      · exact heap_drew (heap_alloc hr)
    · obtain rfl : i = ps.length := by omega
      clear hge hi
      have hl := hE.out
      have hbd := line_bd hl
      obtain ⟨⟨b1, b2⟩, ⟨b3, b4⟩, ⟨b5, b6⟩, ⟨b7, b8⟩, ⟨b9, b10⟩, b11, b12⟩ := hbd
      have hs := hB.size
      clear hl h4 h0
      have hlt : w.heap.size < wr.heap.size := (Array.getElem?_eq_some_iff.1 hr).1
      have q0 := cell_heap (o := 0) hr rfl
      have q1 := cell_heap (o := 1) hr rfl
      have q2 := cell_heap (o := 2) hr rfl
      have f0 := frozen_heap (o := 0) hr
      have f1 := frozen_heap (o := 1) hr
      have f2 := frozen_heap (o := 2) hr
      simp only [List.take_length]
      go_wp2_with fail
      · have hd : fD ps = 0 := of_t ‹_›
        refine bodyPost_ret (v := .tuple #[.agg #[.int .i64 0, .int .i64 0, .int .i64 0], .int .i64 14]) (by simp only [results, Try.results24]; go_simp) rfl ⟨by rw [lineV_s hE.out hd], (by repeat (first | with_reducible exact Below.refl _ _ | with_reducible assumption | with_reducible refine Below.drew ?_ | with_reducible refine Below.setCell ?_ (by first | omega | (simp; omega) | simp) _ | with_reducible refine Below.alloc ?_ (by first | omega | (simp; omega) | simp) _ | with_reducible refine Below.trans ?_ (Below.mono (by with_reducible assumption) (by first | omega | (simp; omega) | simp))))⟩
      · have hd : fD ps ≠ 0 := of_f ‹_›
        refine bodyPost_ret (v := .tuple #[.agg #[.int .i64 (sQ ps * sV ps - sT ps * sW ps), .int .i64 (ps.length * sW ps - sT ps * sV ps), .int .i64 (ps.length * sQ ps - sT ps * sT ps)], .int .i64 0]) (by simp only [results, Try.results24]; go_simp) rfl ⟨by rw [lineV_ok hE.out hd]; rfl, (by repeat (first | with_reducible exact Below.refl _ _ | with_reducible assumption | with_reducible refine Below.drew ?_ | with_reducible refine Below.setCell ?_ (by first | omega | (simp; omega) | simp) _ | with_reducible refine Below.alloc ?_ (by first | omega | (simp; omega) | simp) _ | with_reducible refine Below.trans ?_ (Below.mono (by with_reducible assumption) (by first | omega | (simp; omega) | simp))))⟩
set_option maxHeartbeats 1000000 in
theorem line_any (v : Value) (ps : List PT) (w : World) (h : Pts w v ps) : Calls Try.prog 24 #[v] w fun e w' => e = .returned (lineV ps) ∧ Below w.heap.size w w' := by
  by_cases he : ptsE ps = 0
  · exact line_good v ps w h he
  · have he' : (ptsE ps != 0) = true := by simpa using he
    have hE := Lib.hid he
    clear he
    go_enter Try.func24, Try.ntmps24
    go_wp2_with (go_at_call 58; refine (points_any _ _ _ (h.below (by repeat (first | with_reducible exact Below.refl _ _ | with_reducible assumption | with_reducible refine Below.drew ?_ | with_reducible refine Below.setCell ?_ (by first | omega | (simp; omega) | simp) _ | with_reducible refine Below.alloc ?_ (by first | omega | (simp; omega) | simp) _ | with_reducible refine Below.trans ?_ (Below.mono (by with_reducible assumption) (by first | omega | (simp; omega) | simp)))))).mono ?_; rintro e w' ⟨rfl, hb⟩; (try clear hc hf); (try clear hcM hfM); (try clear hcN hfN); (first | ((first | replace hB := Below.next hB (Nat.le_refl _) hb | replace hB := Below.next1 hB (Nat.le_refl _) hb | replace hB := Below.next2 hB (Nat.le_refl _) hb); (first | replace hM := Below.next hM (Nat.le_refl _) hb | replace hM := Below.next1 hM (Nat.le_refl _) hb | replace hM := Below.next2 hM (Nat.le_refl _) hb); (first | replace hN := Below.next hN (Nat.le_refl _) hb | replace hN := Below.next1 hN (Nat.le_refl _) hb | replace hN := Below.next2 hN (Nat.le_refl _) hb)) | ((first | replace hB := Below.next hB (Nat.le_refl _) hb | replace hB := Below.next1 hB (Nat.le_refl _) hb | replace hB := Below.next2 hB (Nat.le_refl _) hb); (first | replace hM := Below.next hM (Nat.le_refl _) hb | replace hM := Below.next1 hM (Nat.le_refl _) hb | replace hM := Below.next2 hM (Nat.le_refl _) hb); have hN := Below.mid hb) | ((first | replace hB := Below.next hB (Nat.le_refl _) hb | replace hB := Below.next1 hB (Nat.le_refl _) hb | replace hB := Below.next2 hB (Nat.le_refl _) hb); (first | replace hM := Below.next hM (Nat.le_refl _) hb | replace hM := Below.next1 hM (Nat.le_refl _) hb | replace hM := Below.next2 hM (Nat.le_refl _) hb)) | ((first | replace hB := Below.next hB (Nat.le_refl _) hb | replace hB := Below.next1 hB (Nat.le_refl _) hb | replace hB := Below.next2 hB (Nat.le_refl _) hb); have hM := Below.mid hb) | (first | replace hB := Below.next hB (Nat.le_refl _) hb | replace hB := Below.next1 hB (Nat.le_refl _) hb | replace hB := Below.next2 hB (Nat.le_refl _) hb) | have hB := hb); obtain ⟨hc, hf, hz⟩ := after hB; (try (have hq := after hM; obtain ⟨hcM, hfM, hzM⟩ := hq)); (try (have hq := after hN; obtain ⟨hcN, hfN, hzN⟩ := hq)); have hs := hb.size; (try simp at hz); (try simp at hs))
    refine bodyPost_ret (v := .tuple #[.agg #[.int .i64 0, .int .i64 0, .int .i64 0], .int .i64 (ptsE ps)]) (by have c0 := hc (w.heap.size) 0 (by simp [go_sem]); simp [go_sem] at c0; have c1 := hc (w.heap.size) 1 (by simp [go_sem]); simp [go_sem] at c1; have c2 := hc (w.heap.size) 2 (by simp [go_sem]); simp [go_sem] at c2; simp only [results, Try.results24]; go_simp) rfl ⟨by rw [lineV_e hE.out], (by repeat (first | with_reducible exact Below.refl _ _ | with_reducible assumption | with_reducible refine Below.drew ?_ | with_reducible refine Below.setCell ?_ (by first | omega | (simp; omega) | simp) _ | with_reducible refine Below.alloc ?_ (by first | omega | (simp; omega) | simp) _ | with_reducible refine Below.trans ?_ (Below.mono (by with_reducible assumption) (by first | omega | (simp; omega) | simp))))⟩
end Go.Proofs.Ytcppgigndpepnaa
