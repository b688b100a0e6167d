/-
  The sides of the pitch exchanged, in plain Lean: the lines through what is exchanged.
  Conditions: none.
-/
import Derived.Test.YtcppgigndpepnaaFlightPlain
namespace Go.Proofs.Ytcppgigndpepnaa
open Go.RowKit
/-- The sides exchanged, as 64 bits give it. -/
def mirW (s : SN) : SN := (s.1, s.2.1, wrap64 (-s.2.2.1), s.2.2.2.1, s.2.2.2.2)
/-- The place across is a number of 64 bits. -/
def y64 (s : SN) : Prop := -9223372036854775808 ≤ s.2.2.1 ∧ s.2.2.1 ≤ 9223372036854775807
theorem mirW_ok {s : SN} (h : y64 s) : okS (mirW s) = okS s := by
  obtain ⟨h1, h2⟩ := h
  rw [Bool.eq_iff_iff, okS_iff, okS_iff]
  simp only [mirW]
  unfold wrap64
  omega
theorem mirW_id {s : SN} (h : okS s = true) : mirW s = mirS s := by
  obtain ⟨_, _, ⟨h1, h2⟩, _⟩ := okS_iff.1 h
  unfold mirW mirS
  rw [show wrap64 (-s.2.2.1) = -s.2.2.1 from wrap_id (by omega) (by omega)]
theorem chkF_mirW : ∀ (l : List SN) (p : Int), (∀ s ∈ l, y64 s) → chkF p (l.map mirW) = chkF p l
  | [], _, _ => rfl
  | q :: l, p, h => by
    have hk := mirW_ok (h q (by simp))
    simp only [List.map_cons, chkF, hk, chkF_mirW l _ (fun s hs => h s (by simp [hs]))]
    rfl
theorem chkE_mirW {l : List SN} (h : ∀ s ∈ l, y64 s) : chkE (l.map mirW) = chkE l := by
  unfold chkE; rw [List.length_map, chkF_mirW l _ h]
theorem map_mirW {l : List SN} (h : chkE l = 0) : l.map mirW = l.map mirS := List.map_congr_left fun s hs => mirW_id (chkE_ok h s hs)
def neg2 (p : PT) : PT := (p.1, -p.2)
theorem sT_neg (l : List PT) : sT (l.map neg2) = sT l := by induction l with | nil => rfl | cons p l ih => simp only [List.map_cons, sT, ih]; rfl
theorem sQ_neg (l : List PT) : sQ (l.map neg2) = sQ l := by induction l with | nil => rfl | cons p l ih => simp only [List.map_cons, sQ, ih]; rfl
theorem sV_neg (l : List PT) : sV (l.map neg2) = -sV l := by induction l with | nil => rfl | cons p l ih => simp only [List.map_cons, sV, ih, neg2]; omega
theorem sW_neg (l : List PT) : sW (l.map neg2) = -sW l := by induction l with | nil => rfl | cons p l ih => simp only [List.map_cons, sW, ih, neg2]; grind
theorem fA_neg (l : List PT) : fA (l.map neg2) = -fA l := by unfold fA; rw [sT_neg, sQ_neg, sV_neg, sW_neg]; grind
theorem fB_neg (l : List PT) : fB (l.map neg2) = -fB l := by unfold fB; rw [sT_neg, sV_neg, sW_neg, List.length_map]; grind
theorem fD_neg (l : List PT) : fD (l.map neg2) = fD l := by unfold fD; rw [sT_neg, sQ_neg, List.length_map]
theorem mapX_mir (L : List SN) : (L.map mirS).map tX = L.map tX := by rw [List.map_map]; rfl
theorem mapZ_mir (L : List SN) : (L.map mirS).map tZ = L.map tZ := by rw [List.map_map]; rfl
theorem mapY_mir (L : List SN) : (L.map mirS).map tY = (L.map tY).map neg2 := by rw [List.map_map, List.map_map]; rfl
theorem lnE_mir (L : List SN) : lnE (L.map mirS) = lnE L := by unfold lnE; rw [List.length_map, mapX_mir]
theorem lnE_pts {L : List SN} {f : SN → PT} (h : ∀ s ∈ L, okP (f s) = true) (hl : L.length ≤ 64) (he : lnE L = 0) : ptsE (L.map f) = 0 := by
  rw [ptsE_map h hl]
  unfold lnE at he
  split at he
  · omega
  · rename_i h2; rw [if_neg h2]
/-- What Fit gives of a list and of its mirror image. -/
theorem fit_mir {l : List SN} (h : ∀ s ∈ l, y64 s) : ∃ xa xb xd ya yb yd ya' yb' za zb zd e : Int, fitV l = .tuple #[.agg #[.int .i64 xa, .int .i64 xb, .int .i64 xd, .int .i64 ya, .int .i64 yb, .int .i64 yd, .int .i64 za, .int .i64 zb, .int .i64 zd], .int .i64 e] ∧
    fitV (l.map mirW) = .tuple #[.agg #[.int .i64 xa, .int .i64 xb, .int .i64 xd, .int .i64 ya', .int .i64 yb', .int .i64 yd, .int .i64 za, .int .i64 zb, .int .i64 zd], .int .i64 e] ∧ ya' = -ya ∧ yb' = -yb ∧ (-4611686018427387904 ≤ ya ∧ ya ≤ 4611686018427387904) ∧ (-4611686018427387904 ≤ yb ∧ yb ≤ 4611686018427387904) := by
  by_cases hc : chkE l = 0
  · have e1 : bhdL (l.map mirW) = (bhdL l).map mirS := by rw [map_mirW hc, bhd_mir]
    have e2 : fitE (l.map mirW) = fitE l := by unfold fitE; rw [chkE_mirW h, e1, lnE_mir]
    by_cases he : fitE l = 0
    · have hln : lnE (bhdL l) = 0 := by unfold fitE at he; rw [if_neg (fun h => h hc)] at he; exact he
      have hp := lnE_pts (f := tY) (fun s hs => (okS_pts (bhd_ok s hs)).2.1) (bhd_len l) hln
      have hbd := line_bd hp
      refine ⟨fA ((bhdL l).map tX), fB ((bhdL l).map tX), fD ((bhdL l).map tX), fA ((bhdL l).map tY), fB ((bhdL l).map tY), fD ((bhdL l).map tY), fA (((bhdL l).map tY).map neg2), fB (((bhdL l).map tY).map neg2), fA ((bhdL l).map tZ), fB ((bhdL l).map tZ), fD ((bhdL l).map tZ), 0, ?_, ?_, fA_neg _, fB_neg _, ?_, ?_⟩
      · unfold fitV; rw [if_pos he]
      · unfold fitV; rw [if_pos (e2.trans he), e1, mapX_mir, mapY_mir, mapZ_mir, fD_neg]
      · unfold fA; omega
      · unfold fB; omega
    · exact ⟨0, 0, 0, 0, 0, 0, 0, 0, 0, 0, 0, fitE l, by unfold fitV; rw [if_neg he], by unfold fitV; rw [e2, if_neg he], rfl, rfl, by omega, by omega⟩
  · have e2 : fitE (l.map mirW) = fitE l := by unfold fitE; rw [chkE_mirW h, if_pos hc, if_pos hc]
    have he : fitE l ≠ 0 := by unfold fitE; rw [if_pos hc]; exact hc
    exact ⟨0, 0, 0, 0, 0, 0, 0, 0, 0, 0, 0, fitE l, by unfold fitV; rw [if_neg he], by unfold fitV; rw [e2, if_neg he], rfl, rfl, by omega, by omega⟩
end Go.Proofs.Ytcppgigndpepnaa
