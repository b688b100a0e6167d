/-
  The walks of the statements on places that are drawn.
  Conditions: none.
-/
import Derived.Test.YtcppgigndpepnaaRDraw
namespace Go.Proofs.Ytcppgigndpepnaa
open Go.RowKit
set_option maxRecDepth 100000 in
set_option maxHeartbeats 2000000 in
theorem same_any (v u : Value) (l : List SN) (w : World) (h : Seens w v l) (h' : Seens w u l) : Calls Try.prog 39 #[v, u] w fun e w' => e = .returned (.bool true) ∧ Below w.heap.size w w' := by
  obtain ⟨pa, b, o, cap, rfl, h1, h2, h3, h4⟩ := h
  obtain ⟨pb, bb, bo, bc, rfl, g1, g2, g3, g4⟩ := h'
  have hcap : cap ≤ 9223372036854775807 := by unfold maxLen at h3; omega
  go_enter Try.func39, Try.ntmps39
  go_wp2_with fail
  go_loopw [13] (fun x wr => ∃ i : Nat, i ≤ l.length ∧ x = .int .i64 i ∧ Below w.heap.size w wr) (fun x _ => l.length - (intOf x).toNat)
  case atStart => exact ⟨0, by omega, rfl, (by repeat (first | with_reducible exact Below.refl _ _ | with_reducible assumption | with_reducible refine Below.drew ?_ | with_reducible refine Below.setCell ?_ (by first | omega | (simp; omega) | simp) _ | with_reducible refine Below.alloc ?_ (by first | omega | (simp; omega) | simp) _ | with_reducible refine Below.trans ?_ (Below.mono (by with_reducible assumption) (by first | omega | (simp; omega) | simp))))⟩
  case round =>
    obtain ⟨i, hi, rfl, hb⟩ := hrel
    rcases Nat.lt_or_ge i l.length with hlt | hge
    · obtain rfl := h1 (by omega)
      obtain rfl := g1 (by omega)
      obtain ⟨s, hs⟩ : ∃ s, l[i]? = some s := ⟨_, List.getElem?_eq_getElem hlt⟩
      obtain ⟨c0, c1, c2, c3, c4⟩ := (h4 i s hs).below hb
      obtain ⟨e0, e1, e2, e3, e4⟩ := (g4 i s hs).below hb
      have hS := Lib.hid hs
      have hn : l.length - (i + 1) < l.length - i := by omega
      clear hs
      go_wp2_with fail
      refine region_still (by kernel_rfl) (by kernel_rfl) ?_; intro W' hW hC; have z0 := (hC ⟨b, o + i * 5, none⟩).trans (c0); have z1 := (hC ⟨b, o + i * 5 + 1, none⟩).trans (c1); have z2 := (hC ⟨b, o + i * 5 + 2, none⟩).trans (c2); have z3 := (hC ⟨b, o + i * 5 + 3, none⟩).trans (c3); have z4 := (hC ⟨b, o + i * 5 + 4, none⟩).trans (c4); have z5 := (hC ⟨bb, bo + i * 5, none⟩).trans (e0); have z6 := (hC ⟨bb, bo + i * 5 + 1, none⟩).trans (e1); have z7 := (hC ⟨bb, bo + i * 5 + 2, none⟩).trans (e2); have z8 := (hC ⟨bb, bo + i * 5 + 3, none⟩).trans (e3); have z9 := (hC ⟨bb, bo + i * 5 + 4, none⟩).trans (e4); replace hW := Lib.hid hW; clear hC; (repeat still_step); refine wpStill_nil ?_; obtain rfl := hW.out; clear hW
      go_wp2_with fail
      exact ⟨⟨i + 1, hlt, by simp, (by repeat (first | with_reducible exact Below.refl _ _ | with_reducible assumption | with_reducible refine Below.drew ?_ | with_reducible refine Below.setCell ?_ (by first | omega | (simp; omega) | simp) _ | with_reducible refine Below.alloc ?_ (by first | omega | (simp; omega) | simp) _ | with_reducible refine Below.trans ?_ (Below.mono (by with_reducible assumption) (by first | omega | (simp; omega) | simp))))⟩, by simpa [intOf] using hn⟩
    · have hdi : ¬i < l.length := by omega
      go_wp2_with fail
      go_ret
      exact ⟨rfl, (by repeat (first | with_reducible exact Below.refl _ _ | with_reducible assumption | with_reducible refine Below.drew ?_ | with_reducible refine Below.setCell ?_ (by first | omega | (simp; omega) | simp) _ | with_reducible refine Below.alloc ?_ (by first | omega | (simp; omega) | simp) _ | with_reducible refine Below.trans ?_ (Below.mono (by with_reducible assumption) (by first | omega | (simp; omega) | simp))))⟩
set_option maxRecDepth 100000 in
set_option maxHeartbeats 2000000 in
theorem flightDraws_walk (a1 b1 d1 a2 b2 d2 a3 b3 d3 : Int) (n0 n1 n2 : Int) (w : World) : Calls Try.prog 10 #[.agg #[.int .i64 a1, .int .i64 b1, .int .i64 d1, .int .i64 a2, .int .i64 b2, .int .i64 d2, .int .i64 a3, .int .i64 b3, .int .i64 d3], .agg #[.int .i64 n0, .int .i64 n1, .int .i64 n2]] w fun e w' => e = .returned (.bool true) ∧ Below w.heap.size w w' := by
  have h1 := draw_any a1 b1 d1 a2 b2 d2 a3 b3 d3 n0 n1 n2
  have h2 := rdraw_any a1 b1 d1 a2 b2 d2 a3 b3 d3 n0 n1 n2
  generalize drawE a1 b1 d1 a2 b2 d2 a3 b3 d3 n0 n1 n2 = E at h1 h2
  generalize drawL a1 b1 d1 a2 b2 d2 a3 b3 d3 n0 n1 n2 = L at h1 h2
  have H1 := Lib.hid h1
  have H2 := Lib.hid h2
  clear h1 h2
  go_enter Try.func10, Try.ntmps10
  go_wp2_with (first
    | (go_at_call 29; refine (awake32_any _).mono ?_; rintro e w1 ⟨rfl, hb1⟩; have hs1 := hb1.size; simp at hs1; have hK : Below w.heap.size w w1 := Below.trans (by repeat (first | with_reducible exact Below.refl _ _ | with_reducible assumption | refine Below.setCell ?_ (by first | omega | (simp; omega) | simp) _ | refine Below.alloc ?_ (by first | omega | (simp; omega) | simp) _)) (hb1.mono (by first | (simp; done) | (simp; omega))); have hF := heap_old hb1 (b := w.heap.size) (o := .cells #[.int .i64 a1, .int .i64 b1, .int .i64 d1, .int .i64 a2, .int .i64 b2, .int .i64 d2, .int .i64 a3, .int .i64 b3, .int .i64 d3] 48) (by repeat (first | with_reducible refine heap_new _ _ (by first | omega | (simp; done) | (simp; omega)) | with_reducible apply heap_alloc)); have hN := heap_old hb1 (b := w.heap.size + 1) (o := .cells #[.int .i64 n0, .int .i64 n1, .int .i64 n2] 56) (by repeat (first | with_reducible refine heap_new _ _ (by first | omega | (simp; done) | (simp; omega)) | with_reducible apply heap_alloc)); have f0 := cell_heap (o := 0) hF rfl; have f1 := cell_heap (o := 1) hF rfl; have f2 := cell_heap (o := 2) hF rfl; have f3 := cell_heap (o := 3) hF rfl; have f4 := cell_heap (o := 4) hF rfl; have f5 := cell_heap (o := 5) hF rfl; have f6 := cell_heap (o := 6) hF rfl; have f7 := cell_heap (o := 7) hF rfl; have f8 := cell_heap (o := 8) hF rfl; have m0 := cell_heap (o := 0) hN rfl; have m1 := cell_heap (o := 1) hN rfl; have m2 := cell_heap (o := 2) hN rfl)
    | (go_at_call 37; refine (H1.out _).mono ?_; rintro e w3 ⟨⟨u1, rfl, hu1⟩, hb3⟩; replace hK := Below.next hK (Nat.le_refl _) hb3; replace hF := heap_old hb3 hF; replace hN := heap_old hb3 hN; clear f0 f1 f2 f3 f4 f5 f6 f7 f8 m0 m1 m2; have f0 := cell_heap (o := 0) hF rfl; have f1 := cell_heap (o := 1) hF rfl; have f2 := cell_heap (o := 2) hF rfl; have f3 := cell_heap (o := 3) hF rfl; have f4 := cell_heap (o := 4) hF rfl; have f5 := cell_heap (o := 5) hF rfl; have f6 := cell_heap (o := 6) hF rfl; have f7 := cell_heap (o := 7) hF rfl; have f8 := cell_heap (o := 8) hF rfl; have m0 := cell_heap (o := 0) hN rfl; have m1 := cell_heap (o := 1) hN rfl; have m2 := cell_heap (o := 2) hN rfl)
    | (go_at_call 38; refine (H2.out _).mono ?_; rintro e w4 ⟨⟨u2, rfl, hu2⟩, hb4⟩; replace hK := Below.next hK (Nat.le_refl _) hb4; replace hu1 := hu1.below hb4)
    | (go_at_call 39; refine (same_any _ _ _ _ hu1 hu2).mono ?_; rintro e w5 ⟨rfl, hb5⟩; replace hK := Below.next hK (Nat.le_refl _) hb5))
  go_ret
  exact ⟨rfl, hK⟩
end Go.Proofs.Ytcppgigndpepnaa
