/-
  Contract of lsq.Residual.
  Conditions: none.
-/
import Derived.Test.YtcppgigndpepnaaAcc2
namespace Go.Proofs.Ytcppgigndpepnaa
open Go.RowKit
def resE (A B D : Int) (ps : List PT) : Int := if ptsE ps ≠ 0 then ptsE ps else if okL A B D = false then 1 else if sSq A B D ps < 170141183460469231731687303715884105728 then 0 else 2
def resX (A B D : Int) (ps : List PT) : Int := if resE A B D ps = 0 then sSq A B D ps else 0
theorem sq_next {A B D : Int} {ps : List PT} {i : Nat} {p : PT} (hp : ps[i]? = some p) : sSq A B D (ps.take (i + 1)) = sSq A B D (ps.take i) + dev A B D p * dev A B D p := by
  have h1 : ∀ l : List PT, sSq A B D (l ++ [p]) = sSq A B D l + dev A B D p * dev A B D p := by
    intro l; induction l with
    | nil => simp [sSq]
    | cons q l ih => simp only [List.cons_append, sSq, ih]; omega
  rw [List.take_add_one, hp]
  exact h1 _
theorem sq_mono (A B D : Int) : ∀ (i : Nat) (ps : List PT), sSq A B D (ps.take i) ≤ sSq A B D ps
  | 0, ps => by simpa [sSq] using sSq_nonneg A B D ps
  | i + 1, [] => by simp
  | i + 1, p :: l => by simp only [List.take_succ_cons, sSq]; have := sq_mono A B D i l; omega
theorem dev_sq {A B D : Int} {p : PT} (h : okL A B D = true) (hp : okP p = true) : 0 ≤ dev A B D p * dev A B D p ∧ dev A B D p * dev A B D p ≤ 9000000000000000000000000000000000000 := by
  have hb := dev_bd h hp
  have q := mul_bd (A := 3000000000000000000) (B := 3000000000000000000) (a := dev A B D p) (b := dev A B D p) (by omega) (by omega) (by omega) (by omega)
  have q0 := sq_nonneg (dev A B D p)
  omega
set_option maxRecDepth 100000 in
set_option maxHeartbeats 4000000 in
theorem residual_good (A B D : Int) (v : Value) (ps : List PT) (w : World) (h : Pts w v ps) (he : ptsE ps = 0) (hk : okL A B D = true) : Calls Try.prog 45 #[v, .agg #[.int .i64 A, .int .i64 B, .int .i64 D]] w fun e w' => e = .returned (.tuple #[.agg #[.int .i64 (resX A B D ps / 18446744073709551616), .int .u64 (resX A B D ps % 18446744073709551616)], .int .i64 (resE A B D ps)]) ∧ Below w.heap.size w w' := by
  have h0 := h
  obtain ⟨pa, b, o, cap, rfl, h1, h2, h3, h4⟩ := h
  have hcap : cap ≤ 9223372036854775807 := by unfold maxLen at h3; omega
  have hE := Lib.hid he
  obtain ⟨_, l64, _⟩ := ptsE_all he
  have hkk := Lib.hid hk
  go_enter Try.func45, Try.ntmps45
  go_wp2_with (first
    | (go_at_call 58; refine (points_any _ _ _ (h0.below (by repeat (first | with_reducible exact Below.refl _ _ | with_reducible assumption | with_reducible refine Below.drew ?_ | with_reducible refine Below.setCell ?_ (by first | omega | (simp; omega) | simp) _ | with_reducible refine Below.alloc ?_ (by first | omega | (simp; omega) | simp) _ | with_reducible refine Below.trans ?_ (Below.mono (by with_reducible assumption) (by first | omega | (simp; omega) | simp)))))).mono ?_; rintro e wA ⟨rfl, hbA⟩; have hKA : Below w.heap.size w wA := Below.trans (by repeat (first | with_reducible exact Below.refl _ _ | with_reducible assumption | with_reducible refine Below.drew ?_ | refine Below.setCell ?_ (by first | omega | (simp; done) | (simp; omega)) _ | refine Below.alloc ?_ (by first | omega | (simp; done) | (simp; omega)) _)) (hbA.mono (by first | (simp; done) | (simp; omega) | omega)); have hF := heap_old hbA (b := w.heap.size) (o := .cells #[.int .i64 A, .int .i64 B, .int .i64 D] 35) (by repeat (first | with_reducible refine heap_new _ _ (by first | omega | (simp; done) | (simp; omega)) | with_reducible apply heap_alloc)); have hR := heap_old hbA (b := w.heap.size + 1) (o := .cells #[.int .i64 0, .int .u64 0] 65) (by repeat (first | with_reducible refine heap_new _ _ (by first | omega | (simp; done) | (simp; omega)) | with_reducible apply heap_alloc)); have f0 := cell_heap (o := 0) hF rfl; have f1 := cell_heap (o := 1) hF rfl; have f2 := cell_heap (o := 2) hF rfl)
    | (go_at_call 60; refine (line_any' _ _ _ _).mono ?_; rintro e wB ⟨rfl, hbB⟩; have hK := Below.next hKA (Nat.le_refl _) hbB; replace hF := heap_old hbB hF; replace hR := heap_old hbB hR))
  clear he hk f0 f1 f2 hbA hbB hKA
  have hlF : w.heap.size + 1 < wB.heap.size := (Array.getElem?_eq_some_iff.1 hR).1
  go_loopw [25] (fun x wr => ∃ i : Nat, i ≤ ps.length ∧ x = .int .i64 i ∧ sSq A B D (ps.take i) < 170141183460469231731687303715884105728 ∧ Below w.heap.size w wr ∧ wr.heap[w.heap.size]? = some (.cells #[.int .i64 A, .int .i64 B, .int .i64 D] 35 (0, 0)) ∧ wr.heap[w.heap.size + 1]? = some (.cells #[.int .i64 0, .int .u64 0] 65 (0, 0)) ∧ wr.heap[wB.heap.size]? = some (.cells #[.int .i64 ((sSq A B D (ps.take i)) / 18446744073709551616), .int .u64 ((sSq A B D (ps.take i)) % 18446744073709551616)] 65 (0, 0))) (fun x _ => ps.length - (intOf x).toNat)
  case atStart => exact ⟨0, by omega, rfl, by simp [sSq], hK.alloc (by omega) _, heap_alloc hF, heap_alloc hR, by simpa [sSq] using heap_new wB (.cells #[.int .i64 0, .int .u64 0] 65) rfl⟩
  case round =>
    obtain ⟨i, hi, rfl, hlim, hb0, hF1, hR1, hS1⟩ := hrel
    have hls : wB.heap.size < wr.heap.size := (Array.getElem?_eq_some_iff.1 hS1).1
    have hs0 := sSq_nonneg A B D (ps.take i)
    rcases Nat.lt_or_ge i ps.length with hlt | hge
    · obtain rfl := h1 (by omega)
      have hx := (after hb0).1
      obtain ⟨p, hp⟩ : ∃ p, ps[i]? = some p := ⟨_, List.getElem?_eq_getElem hlt⟩
      obtain ⟨c0, c1⟩ := h4 i p hp
      replace c0 := (hx _ _ (by simp [c0])).trans c0
      replace c1 := (hx _ _ (by simp [c1])).trans c1
      have hokp : okP p = true := List.all_eq_true.1 (ptsE_all hE.out).1 p (List.mem_of_getElem? hp)
      have hdv := fun w => deviation_any A B D p.1 p.2 hkk.out hokp w
      have hbd := dev_bd hkk.out hokp
      have hsq := dev_sq hkk.out hokp
      have n1 := sq_next (A := A) (B := B) (D := D) hp
      have hmo := sq_mono A B D (i + 1) ps
      rw [n1] at hmo
      have hN1x := Lib.hid n1
      have hmm := Lib.hid hmo
      have hn : ps.length - (i + 1) < ps.length - i := by omega
      change ∀ w, Calls Try.prog 73 _ w fun e w' => e = .returned (.int .i64 (dev A B D p)) ∧ Below w.heap.size w w' at hdv
      have hDV := Lib.hid hdv
      have f0 := cell_heap (o := 0) hF1 rfl
      have f1 := cell_heap (o := 1) hF1 rfl
      have f2 := cell_heap (o := 2) hF1 rfl
      clear hp hx n1 hokp hdv h4 hmo
      obtain ⟨z1, z2⟩ := hbd
      obtain ⟨q1, q2⟩ := hsq
      generalize sSq A B D (ps.take i) = S at *
      generalize dev A B D p = d at *
      by_cases hov : S + d * d < 170141183460469231731687303715884105728
      · go_wp2_with (go_at_call 73; refine (hDV.out _).mono ?_; rintro e w3 ⟨rfl, hb3⟩; have hK3 : Below w.heap.size w w3 := Below.trans (by repeat (first | with_reducible exact Below.refl _ _ | with_reducible assumption | with_reducible refine Below.drew ?_ | refine Below.setCell ?_ (by first | omega | (simp; done) | (simp; omega)) _ | refine Below.alloc ?_ (by first | omega | (simp; done) | (simp; omega)) _)) (hb3.mono (by first | (simp; done) | (simp; omega) | omega)); have hq3 := hb3.size; simp at hq3; have hF3 := heap_old hb3 (heap_alloc hF1); have hR3 := heap_old hb3 (heap_alloc hR1); have hS3 := heap_old hb3 (heap_alloc hS1); have s0c := cell_heap (o := 0) hS3 rfl; have s1c := cell_heap (o := 1) hS3 rfl)
        first
        | go_region_with (first
            | (go_at_call 42; refine (mul_any d d (by omega) (by omega) (by omega) (by omega) _).mono ?_; rintro e v1 ⟨rfl, hv1⟩; have hK1 : Below w.heap.size w v1 := Below.trans (by repeat (first | with_reducible exact Below.refl _ _ | with_reducible assumption | with_reducible refine Below.drew ?_ | refine Below.setCell ?_ (by first | omega | (simp; done) | (simp; omega)) _ | refine Below.alloc ?_ (by first | omega | (simp; done) | (simp; omega)) _)) (hv1.mono (by first | (simp; done) | (simp; omega) | omega)); have hq1 := hv1.size; (try simp at hq1); have hL11 := heap_old hv1 (b := wB.heap.size) (o := (.cells #[.int .i64 ((S) / 18446744073709551616), .int .u64 ((S) % 18446744073709551616)] 65)) (by first | ((repeat (first | with_reducible assumption | with_reducible refine heap_drew ?_ | with_reducible refine heap_new _ _ (by first | rfl | (simp; done) | fail "no") | with_reducible apply heap_alloc )); done) | fail "no"); have hF11 := heap_old hv1 (b := w.heap.size) (o := (.cells #[.int .i64 A, .int .i64 B, .int .i64 D] 35)) (by first | ((repeat (first | with_reducible assumption | with_reducible refine heap_drew ?_ | with_reducible refine heap_new _ _ (by first | rfl | (simp; done) | fail "no") | with_reducible apply heap_alloc )); done) | fail "no"); have hR11 := heap_old hv1 (b := w.heap.size + 1) (o := (.cells #[.int .i64 0, .int .u64 0] 65)) (by first | ((repeat (first | with_reducible assumption | with_reducible refine heap_drew ?_ | with_reducible refine heap_new _ _ (by first | rfl | (simp; done) | fail "no") | with_reducible apply heap_alloc )); done) | fail "no"); have l10 := cell_heap (o := 0) hL11 rfl; have l11 := cell_heap (o := 1) hL11 rfl; have l1f := frozen_heap (o := 0) hL11; have l1g := frozen_heap (o := 1) hL11; have r10 := cell_heap (o := 0) hR11 rfl; have r11 := cell_heap (o := 1) hR11 rfl; have r1f := frozen_heap (o := 0) hR11; have r1g := frozen_heap (o := 1) hR11; (first | (have hN1 := heap_old hv1 (b := w3.heap.size) (o := (.cells #[.int .i64 0, .int .u64 0] 65)) (by first | ((repeat (first | with_reducible assumption | with_reducible refine heap_drew ?_ | with_reducible refine heap_new _ _ (by first | rfl | (simp; done) | fail "no") | with_reducible apply heap_alloc )); done) | fail "no"); have n10 := cell_heap (o := 0) hN1 rfl; have n11 := cell_heap (o := 1) hN1 rfl; have n1f := frozen_heap (o := 0) hN1; have n1g := frozen_heap (o := 1) hN1) | skip))
            | (go_at_call 41; refine (wadd_ok S (d * d) (by omega) (by omega) (by omega) (by omega) (by omega) (by omega) _).mono ?_; rintro e v2 ⟨rfl, hv2⟩; have hK2 : Below w.heap.size w v2 := Below.trans (by repeat (first | with_reducible exact Below.refl _ _ | with_reducible assumption | with_reducible refine Below.drew ?_ | refine Below.setCell ?_ (by first | omega | (simp; done) | (simp; omega)) _ | refine Below.alloc ?_ (by first | omega | (simp; done) | (simp; omega)) _)) (hv2.mono (by first | (simp; done) | (simp; omega) | omega)); have hq2 := hv2.size; (try simp at hq2); have hL12 := heap_old hv2 (b := wB.heap.size) (o := (.cells #[.int .i64 ((S) / 18446744073709551616), .int .u64 ((S) % 18446744073709551616)] 65)) (by first | ((repeat (first | with_reducible assumption | with_reducible refine heap_drew ?_ | with_reducible refine heap_new _ _ (by first | rfl | (simp; done) | fail "no") | with_reducible apply heap_alloc )); done) | fail "no"); have hF12 := heap_old hv2 (b := w.heap.size) (o := (.cells #[.int .i64 A, .int .i64 B, .int .i64 D] 35)) (by first | ((repeat (first | with_reducible assumption | with_reducible refine heap_drew ?_ | with_reducible refine heap_new _ _ (by first | rfl | (simp; done) | fail "no") | with_reducible apply heap_alloc )); done) | fail "no"); have hR12 := heap_old hv2 (b := w.heap.size + 1) (o := (.cells #[.int .i64 0, .int .u64 0] 65)) (by first | ((repeat (first | with_reducible assumption | with_reducible refine heap_drew ?_ | with_reducible refine heap_new _ _ (by first | rfl | (simp; done) | fail "no") | with_reducible apply heap_alloc )); done) | fail "no"); have l20 := cell_heap (o := 0) hL12 rfl; have l21 := cell_heap (o := 1) hL12 rfl; have l2f := frozen_heap (o := 0) hL12; have l2g := frozen_heap (o := 1) hL12; have r20 := cell_heap (o := 0) hR12 rfl; have r21 := cell_heap (o := 1) hR12 rfl; have r2f := frozen_heap (o := 0) hR12; have r2g := frozen_heap (o := 1) hR12; (first | (have hN2 := heap_old hv2 (b := w3.heap.size) (o := (.cells #[.int .i64 0, .int .u64 0] 65)) (by first | ((repeat (first | with_reducible assumption | with_reducible refine heap_drew ?_ | with_reducible refine heap_new _ _ (by first | rfl | (simp; done) | fail "no") | with_reducible apply heap_alloc )); done) | fail "no"); have n20 := cell_heap (o := 0) hN2 rfl; have n21 := cell_heap (o := 1) hN2 rfl; have n2f := frozen_heap (o := 0) hN2; have n2g := frozen_heap (o := 1) hN2) | skip); (first | (have hN3 := heap_old hv2 (b := v1.heap.size) (o := (.cells #[.int .i64 0, .int .u64 0] 65)) (by first | ((repeat (first | with_reducible assumption | with_reducible refine heap_drew ?_ | with_reducible refine heap_new _ _ (by first | rfl | (simp; done) | fail "no") | with_reducible apply heap_alloc )); done) | fail "no"); have n30 := cell_heap (o := 0) hN3 rfl; have n31 := cell_heap (o := 1) hN3 rfl; have n3f := frozen_heap (o := 0) hN3; have n3g := frozen_heap (o := 1) hN3) | skip)))
        | fail
        all_goals
          go_wp2_with fail
          refine ⟨⟨i + 1, hlt, by simp, by rw [hN1x.out]; exact hov, (by repeat (first | with_reducible exact Below.refl _ _ | with_reducible assumption | with_reducible refine Below.drew ?_ | refine Below.setCell ?_ (by first | omega | (simp; done) | (simp; omega)) _ | refine Below.alloc ?_ (by first | omega | (simp; done) | (simp; omega)) _)), ?_⟩, by simpa [intOf] using hn⟩
          rw [hN1x.out]
          first
          | (have h9 := heap_set (o := 1) (v := .int .u64 ((S + d * d) % 18446744073709551616)) (heap_set (o := 0) (v := .int .i64 ((S + d * d) / 18446744073709551616)) (heap_set_other (g := w3.heap.size) (o := 1) (v := .int .u64 ((S + d * d) % 18446744073709551616)) (heap_set_other (g := w3.heap.size) (o := 0) (v := .int .i64 ((S + d * d) / 18446744073709551616)) hL12 (by omega)) (by omega))); simp only [List.setIfInBounds_toArray, List.set_cons_succ, List.set_cons_zero] at h9; exact ⟨(heap_set_other (g := wB.heap.size) (o := 1) (v := .int .u64 ((S + d * d) % 18446744073709551616)) (heap_set_other (g := wB.heap.size) (o := 0) (v := .int .i64 ((S + d * d) / 18446744073709551616)) (heap_set_other (g := w3.heap.size) (o := 1) (v := .int .u64 ((S + d * d) % 18446744073709551616)) (heap_set_other (g := w3.heap.size) (o := 0) (v := .int .i64 ((S + d * d) / 18446744073709551616)) hF12 (by omega)) (by omega)) (by omega)) (by omega)), (heap_set_other (g := wB.heap.size) (o := 1) (v := .int .u64 ((S + d * d) % 18446744073709551616)) (heap_set_other (g := wB.heap.size) (o := 0) (v := .int .i64 ((S + d * d) / 18446744073709551616)) (heap_set_other (g := w3.heap.size) (o := 1) (v := .int .u64 ((S + d * d) % 18446744073709551616)) (heap_set_other (g := w3.heap.size) (o := 0) (v := .int .i64 ((S + d * d) / 18446744073709551616)) hR12 (by omega)) (by omega)) (by omega)) (by omega)), h9⟩)
          | (have h9 := heap_set (o := 1) (v := .int .u64 ((S + d * d) % 18446744073709551616)) (heap_set (o := 0) (v := .int .i64 ((S + d * d) / 18446744073709551616)) (heap_set_other (g := v1.heap.size) (o := 1) (v := .int .u64 ((S + d * d) % 18446744073709551616)) (heap_set_other (g := v1.heap.size) (o := 0) (v := .int .i64 ((S + d * d) / 18446744073709551616)) hL12 (by omega)) (by omega))); simp only [List.setIfInBounds_toArray, List.set_cons_succ, List.set_cons_zero] at h9; exact ⟨(heap_set_other (g := wB.heap.size) (o := 1) (v := .int .u64 ((S + d * d) % 18446744073709551616)) (heap_set_other (g := wB.heap.size) (o := 0) (v := .int .i64 ((S + d * d) / 18446744073709551616)) (heap_set_other (g := v1.heap.size) (o := 1) (v := .int .u64 ((S + d * d) % 18446744073709551616)) (heap_set_other (g := v1.heap.size) (o := 0) (v := .int .i64 ((S + d * d) / 18446744073709551616)) hF12 (by omega)) (by omega)) (by omega)) (by omega)), (heap_set_other (g := wB.heap.size) (o := 1) (v := .int .u64 ((S + d * d) % 18446744073709551616)) (heap_set_other (g := wB.heap.size) (o := 0) (v := .int .i64 ((S + d * d) / 18446744073709551616)) (heap_set_other (g := v1.heap.size) (o := 1) (v := .int .u64 ((S + d * d) % 18446744073709551616)) (heap_set_other (g := v1.heap.size) (o := 0) (v := .int .i64 ((S + d * d) / 18446744073709551616)) hR12 (by omega)) (by omega)) (by omega)) (by omega)), h9⟩)
          | (have h9 := heap_set (o := 1) (v := .int .u64 ((S + d * d) % 18446744073709551616)) (heap_set (o := 0) (v := .int .i64 ((S + d * d) / 18446744073709551616)) (heap_alloc (X := .cells #[.int .i64 ((S + d * d) / 18446744073709551616), .int .u64 ((S + d * d) % 18446744073709551616)] 65) hL12)); simp only [List.setIfInBounds_toArray, List.set_cons_succ, List.set_cons_zero] at h9; exact ⟨(heap_set_other (g := wB.heap.size) (o := 1) (v := .int .u64 ((S + d * d) % 18446744073709551616)) (heap_set_other (g := wB.heap.size) (o := 0) (v := .int .i64 ((S + d * d) / 18446744073709551616)) (heap_alloc (X := .cells #[.int .i64 ((S + d * d) / 18446744073709551616), .int .u64 ((S + d * d) % 18446744073709551616)] 65) hF12) (by omega)) (by omega)), (heap_set_other (g := wB.heap.size) (o := 1) (v := .int .u64 ((S + d * d) % 18446744073709551616)) (heap_set_other (g := wB.heap.size) (o := 0) (v := .int .i64 ((S + d * d) / 18446744073709551616)) (heap_alloc (X := .cells #[.int .i64 ((S + d * d) / 18446744073709551616), .int .u64 ((S + d * d) % 18446744073709551616)] 65) hR12) (by omega)) (by omega)), h9⟩)
      · have hbad : resE A B D ps = 2 := by
          unfold resE
          rw [if_neg (fun h => h hE.out), hkk.out, if_neg (by simp), if_neg (by have := hmm.out; omega)]
        have hx0 : resX A B D ps = 0 := by unfold resX; rw [hbad]; rfl
        have hBD := Lib.hid hbad
        have hX0 := Lib.hid hx0
        clear hbad hx0
        have hadd := fun w => wadd_any S (d * d) (by omega) (by omega) (by omega) (by omega) w
        rw [if_neg (fun h => hov h.2)] at hadd
        have hAD := Lib.hid hadd
        clear hadd
        go_wp2_with (go_at_call 73; refine (hDV.out _).mono ?_; rintro e w3 ⟨rfl, hb3⟩; have hK3 : Below w.heap.size w w3 := Below.trans (by repeat (first | with_reducible exact Below.refl _ _ | with_reducible assumption | with_reducible refine Below.drew ?_ | refine Below.setCell ?_ (by first | omega | (simp; done) | (simp; omega)) _ | refine Below.alloc ?_ (by first | omega | (simp; done) | (simp; omega)) _)) (hb3.mono (by first | (simp; done) | (simp; omega) | omega)); have hq3 := hb3.size; simp at hq3; have hF3 := heap_old hb3 (heap_alloc hF1); have hR3 := heap_old hb3 (heap_alloc hR1); have hS3 := heap_old hb3 (heap_alloc hS1); have s0c := cell_heap (o := 0) hS3 rfl; have s1c := cell_heap (o := 1) hS3 rfl)
        first
        | go_region_with (first
            | (go_at_call 42; refine (mul_any d d (by omega) (by omega) (by omega) (by omega) _).mono ?_; rintro e v1 ⟨rfl, hv1⟩; have hK1 : Below w.heap.size w v1 := Below.trans (by repeat (first | with_reducible exact Below.refl _ _ | with_reducible assumption | with_reducible refine Below.drew ?_ | refine Below.setCell ?_ (by first | omega | (simp; done) | (simp; omega)) _ | refine Below.alloc ?_ (by first | omega | (simp; done) | (simp; omega)) _)) (hv1.mono (by first | (simp; done) | (simp; omega) | omega)); have hq1 := hv1.size; (try simp at hq1); have hL11 := heap_old hv1 (b := wB.heap.size) (o := (.cells #[.int .i64 ((S) / 18446744073709551616), .int .u64 ((S) % 18446744073709551616)] 65)) (by first | ((repeat (first | with_reducible assumption | with_reducible refine heap_drew ?_ | with_reducible refine heap_new _ _ (by first | rfl | (simp; done) | fail "no") | with_reducible apply heap_alloc )); done) | fail "no"); have hF11 := heap_old hv1 (b := w.heap.size) (o := (.cells #[.int .i64 A, .int .i64 B, .int .i64 D] 35)) (by first | ((repeat (first | with_reducible assumption | with_reducible refine heap_drew ?_ | with_reducible refine heap_new _ _ (by first | rfl | (simp; done) | fail "no") | with_reducible apply heap_alloc )); done) | fail "no"); have hR11 := heap_old hv1 (b := w.heap.size + 1) (o := (.cells #[.int .i64 0, .int .u64 0] 65)) (by first | ((repeat (first | with_reducible assumption | with_reducible refine heap_drew ?_ | with_reducible refine heap_new _ _ (by first | rfl | (simp; done) | fail "no") | with_reducible apply heap_alloc )); done) | fail "no"); have l10 := cell_heap (o := 0) hL11 rfl; have l11 := cell_heap (o := 1) hL11 rfl; have l1f := frozen_heap (o := 0) hL11; have l1g := frozen_heap (o := 1) hL11; have r10 := cell_heap (o := 0) hR11 rfl; have r11 := cell_heap (o := 1) hR11 rfl; have r1f := frozen_heap (o := 0) hR11; have r1g := frozen_heap (o := 1) hR11; (first | (have hN1 := heap_old hv1 (b := w3.heap.size) (o := (.cells #[.int .i64 0, .int .u64 0] 65)) (by first | ((repeat (first | with_reducible assumption | with_reducible refine heap_drew ?_ | with_reducible refine heap_new _ _ (by first | rfl | (simp; done) | fail "no") | with_reducible apply heap_alloc )); done) | fail "no"); have n10 := cell_heap (o := 0) hN1 rfl; have n11 := cell_heap (o := 1) hN1 rfl; have n1f := frozen_heap (o := 0) hN1; have n1g := frozen_heap (o := 1) hN1) | skip))
            | (go_at_call 41; refine (hAD.out _).mono ?_; rintro e v2 ⟨rfl, hv2⟩; have hK2 : Below w.heap.size w v2 := Below.trans (by repeat (first | with_reducible exact Below.refl _ _ | with_reducible assumption | with_reducible refine Below.drew ?_ | refine Below.setCell ?_ (by first | omega | (simp; done) | (simp; omega)) _ | refine Below.alloc ?_ (by first | omega | (simp; done) | (simp; omega)) _)) (hv2.mono (by first | (simp; done) | (simp; omega) | omega)); have hq2 := hv2.size; (try simp at hq2); have hL12 := heap_old hv2 (b := wB.heap.size) (o := (.cells #[.int .i64 ((S) / 18446744073709551616), .int .u64 ((S) % 18446744073709551616)] 65)) (by first | ((repeat (first | with_reducible assumption | with_reducible refine heap_drew ?_ | with_reducible refine heap_new _ _ (by first | rfl | (simp; done) | fail "no") | with_reducible apply heap_alloc )); done) | fail "no"); have hF12 := heap_old hv2 (b := w.heap.size) (o := (.cells #[.int .i64 A, .int .i64 B, .int .i64 D] 35)) (by first | ((repeat (first | with_reducible assumption | with_reducible refine heap_drew ?_ | with_reducible refine heap_new _ _ (by first | rfl | (simp; done) | fail "no") | with_reducible apply heap_alloc )); done) | fail "no"); have hR12 := heap_old hv2 (b := w.heap.size + 1) (o := (.cells #[.int .i64 0, .int .u64 0] 65)) (by first | ((repeat (first | with_reducible assumption | with_reducible refine heap_drew ?_ | with_reducible refine heap_new _ _ (by first | rfl | (simp; done) | fail "no") | with_reducible apply heap_alloc )); done) | fail "no"); have l20 := cell_heap (o := 0) hL12 rfl; have l21 := cell_heap (o := 1) hL12 rfl; have l2f := frozen_heap (o := 0) hL12; have l2g := frozen_heap (o := 1) hL12; have r20 := cell_heap (o := 0) hR12 rfl; have r21 := cell_heap (o := 1) hR12 rfl; have r2f := frozen_heap (o := 0) hR12; have r2g := frozen_heap (o := 1) hR12; (first | (have hN2 := heap_old hv2 (b := w3.heap.size) (o := (.cells #[.int .i64 0, .int .u64 0] 65)) (by first | ((repeat (first | with_reducible assumption | with_reducible refine heap_drew ?_ | with_reducible refine heap_new _ _ (by first | rfl | (simp; done) | fail "no") | with_reducible apply heap_alloc )); done) | fail "no"); have n20 := cell_heap (o := 0) hN2 rfl; have n21 := cell_heap (o := 1) hN2 rfl; have n2f := frozen_heap (o := 0) hN2; have n2g := frozen_heap (o := 1) hN2) | skip); (first | (have hN3 := heap_old hv2 (b := v1.heap.size) (o := (.cells #[.int .i64 0, .int .u64 0] 65)) (by first | ((repeat (first | with_reducible assumption | with_reducible refine heap_drew ?_ | with_reducible refine heap_new _ _ (by first | rfl | (simp; done) | fail "no") | with_reducible apply heap_alloc )); done) | fail "no"); have n30 := cell_heap (o := 0) hN3 rfl; have n31 := cell_heap (o := 1) hN3 rfl; have n3f := frozen_heap (o := 0) hN3; have n3g := frozen_heap (o := 1) hN3) | skip)))
        | fail
        all_goals
          go_wp2_with fail
          refine bodyPost_ret (v := .tuple #[.agg #[.int .i64 0, .int .u64 0], .int .i64 2]) (by simp only [results, Try.results45]; go_simp) rfl ⟨by rw [hBD.out, hX0.out]; rfl, (by repeat (first | with_reducible exact Below.refl _ _ | with_reducible assumption | with_reducible refine Below.drew ?_ | refine Below.setCell ?_ (by first | omega | (simp; done) | (simp; omega)) _ | refine Below.alloc ?_ (by first | omega | (simp; done) | (simp; omega)) _))⟩
    · obtain rfl : i = ps.length := by omega
      rw [List.take_length] at hS1 hlim hs0
      have hgood : resE A B D ps = 0 := by
        unfold resE
        rw [if_neg (fun h => h hE.out), hkk.out, if_neg (by simp), if_pos hlim]
      have hx0 : resX A B D ps = sSq A B D ps := by unfold resX; rw [if_pos hgood]
      have hBD := Lib.hid hgood
      have hX0 := Lib.hid hx0
      have s0c := cell_heap (o := 0) hS1 rfl
      have s1c := cell_heap (o := 1) hS1 rfl
      have r10 := cell_heap (o := 0) hR1 rfl
      have r11 := cell_heap (o := 1) hR1 rfl
      have r1f := frozen_heap (o := 0) hR1
      have r1g := frozen_heap (o := 1) hR1
      clear hgood hx0 h4
      generalize sSq A B D ps = S at *
      go_wp2_with fail
      refine bodyPost_ret (v := .tuple #[.agg #[.int .i64 ((S) / 18446744073709551616), .int .u64 ((S) % 18446744073709551616)], .int .i64 0]) (by simp only [results, Try.results45]; go_simp) rfl ⟨by rw [hBD.out, hX0.out], (by repeat (first | with_reducible exact Below.refl _ _ | with_reducible assumption | with_reducible refine Below.drew ?_ | refine Below.setCell ?_ (by first | omega | (simp; done) | (simp; omega)) _ | refine Below.alloc ?_ (by first | omega | (simp; done) | (simp; omega)) _))⟩
end Go.Proofs.Ytcppgigndpepnaa
