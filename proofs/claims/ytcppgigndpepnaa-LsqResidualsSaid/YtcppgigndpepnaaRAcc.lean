/-
  Contract of the reference's Accept: after the contract of lsq.Accept.
  Conditions: none.
-/
import Derived.Test.YtcppgigndpepnaaRDev
namespace Go.Proofs.Ytcppgigndpepnaa
open Go.RowKit
set_option maxRecDepth 100000 in
set_option maxHeartbeats 4000000 in
theorem raccept_good (A B D : Int) (v : Value) (ps : List PT) (w : World) (h : Pts w v ps) (he : ptsE ps = 0) (hk : okL A B D = true) : Calls Try.prog 47 #[v, .agg #[.int .i64 A, .int .i64 B, .int .i64 D]] w fun e w' => e = .returned (.bool (accB A B D ps)) ∧ Below w.heap.size w w' := by
  have h0 := h
  obtain ⟨pa, b, o, cap, rfl, h1, h2, h3, h4⟩ := h
  have hcap : cap ≤ 9223372036854775807 := by unfold maxLen at h3; omega
  have hE := Lib.hid he
  obtain ⟨_, l64, _⟩ := ptsE_all he
  have hkk := Lib.hid hk
  go_enter Try.func47, Try.ntmps47
  go_wp2_with (first
    | (go_at_call 59; refine (rpoints_any _ _ _ (h0.below (by repeat (first | with_reducible exact Below.refl _ _ | with_reducible assumption | with_reducible refine Below.drew ?_ | with_reducible refine Below.setCell ?_ (by first | omega | (simp; omega) | simp) _ | with_reducible refine Below.alloc ?_ (by first | omega | (simp; omega) | simp) _ | with_reducible refine Below.trans ?_ (Below.mono (by with_reducible assumption) (by first | omega | (simp; omega) | simp)))))).mono ?_; rintro e wA ⟨rfl, hbA⟩; have hKA : Below w.heap.size w wA := Below.trans (by repeat (first | with_reducible exact Below.refl _ _ | with_reducible assumption | with_reducible refine Below.drew ?_ | refine Below.setCell ?_ (by first | omega | (simp; done) | (simp; omega)) _ | refine Below.alloc ?_ (by first | omega | (simp; done) | (simp; omega)) _)) (hbA.mono (by first | (simp; done) | (simp; omega) | omega)); have hF := heap_old hbA (b := w.heap.size) (o := .cells #[.int .i64 A, .int .i64 B, .int .i64 D] 35) (by repeat (first | with_reducible refine heap_new _ _ (by first | omega | (simp; done) | (simp; omega)) | with_reducible apply heap_alloc)); have f0 := cell_heap (o := 0) hF rfl; have f1 := cell_heap (o := 1) hF rfl; have f2 := cell_heap (o := 2) hF rfl)
    | (go_at_call 62; refine (raccepted_any _ _ _ _).mono ?_; rintro e wB ⟨rfl, hbB⟩; have hK := Below.next hKA (Nat.le_refl _) hbB; replace hF := heap_old hbB hF))
  clear he hk f0 f1 f2 hbA hbB hKA
  have hlF : w.heap.size < wB.heap.size := (Array.getElem?_eq_some_iff.1 hF).1
  go_loopw [20] (fun x wr => ∃ i : Nat, i ≤ ps.length ∧ x = .int .i64 i ∧ Below w.heap.size w wr ∧ wr.heap[w.heap.size]? = some (.cells #[.int .i64 A, .int .i64 B, .int .i64 D] 35 (0, 0)) ∧ wr.heap[wB.heap.size]? = some (.cells #[.int .i64 ((sDev A B D (ps.take i)) / 18446744073709551616), .int .u64 ((sDev A B D (ps.take i)) % 18446744073709551616)] 65 (0, 0)) ∧ wr.heap[wB.heap.size + 1]? = some (.cells #[.int .i64 ((sMom A B D (ps.take i)) / 18446744073709551616), .int .u64 ((sMom A B D (ps.take i)) % 18446744073709551616)] 65 (0, 0))) (fun x _ => ps.length - (intOf x).toNat)
  case atStart => exact ⟨0, by omega, rfl, (hK.alloc (by omega) _).alloc (by simp; omega) _, heap_alloc (heap_alloc hF), heap_alloc (heap_new _ _ rfl), heap_new _ _ (by simp)⟩
  case round =>
    obtain ⟨i, hi, rfl, hb0, hF1, hS1, hM1⟩ := hrel
    have hb9 := devs_take hkk.out hE.out i
    have hls : wB.heap.size + 1 < wr.heap.size := (Array.getElem?_eq_some_iff.1 hM1).1
    rcases Nat.lt_or_ge i ps.length with hlt | hge
    · obtain rfl := h1 (by omega)
      have hx := (after hb0).1
      obtain ⟨p, hp⟩ : ∃ p, ps[i]? = some p := ⟨_, List.getElem?_eq_getElem hlt⟩
      obtain ⟨c0, c1⟩ := h4 i p hp
      replace c0 := (hx _ _ (by simp [c0])).trans c0
      replace c1 := (hx _ _ (by simp [c1])).trans c1
      have hokp : okP p = true := List.all_eq_true.1 (ptsE_all hE.out).1 p (List.mem_of_getElem? hp)
      have hdv := fun w => rdeviation_any A B D p.1 p.2 hkk.out hokp w
      have hbd := dev_bd hkk.out hokp
      obtain ⟨n1, n2⟩ := devs_next (A := A) (B := B) (D := D) hp
      have hb10 := devs_take hkk.out hE.out (i + 1)
      rw [n1, n2] at hb10
      have htb := okP_iff hokp
      have hN1 := Lib.hid n1
      have hN2 := Lib.hid n2
      have hn : ps.length - (i + 1) < ps.length - i := by omega
      change ∀ w, Calls Try.prog 76 _ w fun e w' => e = .returned (.int .i64 (dev A B D p)) ∧ Below w.heap.size w w' at hdv
      have hDV := Lib.hid hdv
      have f0 := cell_heap (o := 0) hF1 rfl
      have f1 := cell_heap (o := 1) hF1 rfl
      have f2 := cell_heap (o := 2) hF1 rfl
      have hq := mul_bd (A := 3000000000000000000) (B := 8000) (a := dev A B D p) (b := p.1) (by omega) (by omega) (by omega) (by omega)
      clear hp hx n1 n2 hokp hdv h4
      obtain ⟨⟨x1, x2⟩, x3, x4⟩ := hb9
      obtain ⟨⟨y1, y2⟩, y3, y4⟩ := hb10
      obtain ⟨z1, z2⟩ := hbd
      obtain ⟨q1, q2⟩ := hq
      obtain ⟨⟨t1, t2⟩, t3, t4⟩ := htb
      generalize sDev A B D (ps.take i) = S at *
      generalize sMom A B D (ps.take i) = M at *
      generalize dev A B D p = d at *
      go_wp2_with (go_at_call 76; refine (hDV.out _).mono ?_; rintro e w3 ⟨rfl, hb3⟩; have hK3 : Below w.heap.size w w3 := Below.trans (by repeat (first | with_reducible exact Below.refl _ _ | with_reducible assumption | with_reducible refine Below.drew ?_ | refine Below.setCell ?_ (by first | omega | (simp; done) | (simp; omega)) _ | refine Below.alloc ?_ (by first | omega | (simp; done) | (simp; omega)) _)) (hb3.mono (by first | (simp; done) | (simp; omega) | omega)); have hq3 := hb3.size; simp at hq3; have hF3 := heap_old hb3 (heap_alloc hF1); have hS3 := heap_old hb3 (heap_alloc hS1); have hM3 := heap_old hb3 (heap_alloc hM1); have hP3 := heap_old hb3 (heap_new wr (.cells #[.int .i64 p.1, .int .i64 p.2] 83) rfl); have s0c := cell_heap (o := 0) hS3 rfl; have s1c := cell_heap (o := 1) hS3 rfl)
      go_region_with (first
        | (go_at_call 79; refine (rof_any _ (by omega) (by omega) _).mono ?_; rintro e v1 ⟨rfl, hv1⟩; have hKv1 := Below.next hK3.drew (Nat.le_refl _) hv1; have hF4 := heap_old hv1 (heap_drew hF3); have hS4 := heap_old hv1 (heap_drew hS3); have hM4 := heap_old hv1 (heap_drew hM3); have hP4 := heap_old hv1 (heap_drew hP3); clear s0c s1c; have s0c := cell_heap (o := 0) hS4 rfl; have s1c := cell_heap (o := 1) hS4 rfl)
        | (go_at_call 77; refine (radd_ok S d (by omega) (by omega) (by omega) (by omega) (by omega) (by omega) _).mono ?_; rintro e v2 ⟨rfl, hv2⟩; have hKv2 := Below.next hKv1 (Nat.le_refl _) hv2; have hF5 := heap_old hv2 hF4; have hS5 := heap_old hv2 hS4; have hM5 := heap_old hv2 hM4; have hP5 := heap_old hv2 hP4; clear s0c s1c; have s0c := cell_heap (o := 0) hS5 rfl; have s1c := cell_heap (o := 1) hS5 rfl; have s0f := frozen_heap (o := 0) hS5; have s1f := frozen_heap (o := 1) hS5))
      all_goals
        go_wp2_with fail
        clear s0c s1c s0f s1f
        have hK6 := (hKv2.setCell (p := ⟨wB.heap.size, 0, none⟩) (Nat.le_of_lt hlF) (.int .i64 ((S + d) / 18446744073709551616))).setCell (p := ⟨wB.heap.size, 1, none⟩) (Nat.le_of_lt hlF) (.int .u64 ((S + d) % 18446744073709551616))
        have hF6 := heap_set_other (g := wB.heap.size) (o := 1) (v := .int .u64 ((S + d) % 18446744073709551616)) (heap_set_other (g := wB.heap.size) (o := 0) (v := .int .i64 ((S + d) / 18446744073709551616)) hF5 (by omega)) (by omega)
        have hM6 := heap_set_other (g := wB.heap.size) (o := 1) (v := .int .u64 ((S + d) % 18446744073709551616)) (heap_set_other (g := wB.heap.size) (o := 0) (v := .int .i64 ((S + d) / 18446744073709551616)) hM5 (by omega)) (by omega)
        have hP6 := heap_set_other (g := wB.heap.size) (o := 1) (v := .int .u64 ((S + d) % 18446744073709551616)) (heap_set_other (g := wB.heap.size) (o := 0) (v := .int .i64 ((S + d) / 18446744073709551616)) hP5 (by omega)) (by omega)
        have hS6 := heap_set (o := 1) (v := .int .u64 ((S + d) % 18446744073709551616)) (heap_set (o := 0) (v := .int .i64 ((S + d) / 18446744073709551616)) hS5)
        simp only [List.setIfInBounds_toArray, List.set_cons_succ, List.set_cons_zero] at hS6
        generalize (v2.setCell ⟨wB.heap.size, 0, none⟩ (.int .i64 ((S + d) / 18446744073709551616))).setCell ⟨wB.heap.size, 1, none⟩ (.int .u64 ((S + d) % 18446744073709551616)) = w6 at hK6 hF6 hM6 hP6 hS6 ⊢
        have m0c := cell_heap (o := 0) hM6 rfl
        have m1c := cell_heap (o := 1) hM6 rfl
        have p0c := cell_heap (o := 0) hP6 rfl
        go_region_with (first
          | (go_at_call 78; refine (rmul_any d p.1 (by omega) (by omega) (by omega) (by omega) _).mono ?_; rintro e v7 ⟨rfl, hv7⟩; have hK7 := Below.next hK6.drew (Nat.le_refl _) hv7; have hF7 := heap_old hv7 (heap_drew hF6); have hS7 := heap_old hv7 (heap_drew hS6); have hM7 := heap_old hv7 (heap_drew hM6); clear m0c m1c p0c; have m0c := cell_heap (o := 0) hM7 rfl; have m1c := cell_heap (o := 1) hM7 rfl)
          | (go_at_call 77; refine (radd_ok M (d * p.1) (by omega) (by omega) (by omega) (by omega) (by omega) (by omega) _).mono ?_; rintro e v8 ⟨rfl, hv8⟩; have hK8 := Below.next hK7 (Nat.le_refl _) hv8; have hF8 := heap_old hv8 hF7; have hS8 := heap_old hv8 hS7; have hM8 := heap_old hv8 hM7; clear m0c m1c; have m0c := cell_heap (o := 0) hM8 rfl; have m1c := cell_heap (o := 1) hM8 rfl; have m0f := frozen_heap (o := 0) hM8; have m1f := frozen_heap (o := 1) hM8))
      all_goals
        go_wp2_with fail
        have hM9 := heap_set (o := 1) (v := .int .u64 ((M + d * p.1) % 18446744073709551616)) (heap_set (o := 0) (v := .int .i64 ((M + d * p.1) / 18446744073709551616)) hM8)
        simp only [List.setIfInBounds_toArray, List.set_cons_succ, List.set_cons_zero] at hM9
        refine ⟨⟨i + 1, hlt, by simp, (hK8.setCell (Nat.le_of_lt (Nat.lt_succ_of_lt hlF)) _).setCell (Nat.le_of_lt (Nat.lt_succ_of_lt hlF)) _, heap_set_other (heap_set_other hF8 (by omega)) (by omega), ?_, ?_⟩, by simpa [intOf] using hn⟩
        · rw [hN1.out]; exact heap_set_other (heap_set_other hS8 (by omega)) (by omega)
        · rw [hN2.out]; exact hM9
    · obtain rfl : i = ps.length := by omega
      rw [List.take_length] at hS1 hM1
      have hacc : accB A B D ps = (decide (sDev A B D ps = 0) && decide (sMom A B D ps = 0)) := by unfold accB; rw [hE.out, hkk.out]; simp
      have hAC := Lib.hid hacc
      have s0c := cell_heap (o := 0) hS1 rfl
      have s1c := cell_heap (o := 1) hS1 rfl
      have m0c := cell_heap (o := 0) hM1 rfl
      have m1c := cell_heap (o := 1) hM1 rfl
      clear hacc hb9 h4
      generalize sDev A B D ps = S at *
      generalize sMom A B D ps = M at *
      by_cases gS : S = 0
      · have e1 : S / 18446744073709551616 = 0 := by omega
        have e2 : S % 18446744073709551616 = 0 := by omega
        rw [e1] at s0c
        rw [e2] at s1c
        by_cases gM : M = 0
        · have e3 : M / 18446744073709551616 = 0 := by omega
          have e4 : M % 18446744073709551616 = 0 := by omega
          rw [e3] at m0c
          rw [e4] at m1c
          have EA := Lib.hid (show accB A B D ps = true by rw [hAC.out]; simp [gS, gM])
          clear e1 e2 e3 e4 gS gM hAC hS1 hM1
          go_wp2_with fail
          all_goals
            go_ret
            exact ⟨by rw [EA.out]; first | rfl | simp_all, hb0⟩
        · have e3 : ¬(M / 18446744073709551616 = 0 ∧ M % 18446744073709551616 = 0) := by omega
          have EA := Lib.hid (show accB A B D ps = false by rw [hAC.out]; simp [gM])
          clear e1 e2 gS gM hAC hS1 hM1
          generalize M / 18446744073709551616 = m0 at *
          generalize M % 18446744073709551616 = m1 at *
          go_wp2_with fail
          all_goals
            go_ret
            exact ⟨by rw [EA.out]; first | rfl | simp_all, hb0⟩
      · have e3 : ¬(S / 18446744073709551616 = 0 ∧ S % 18446744073709551616 = 0) := by omega
        have EA := Lib.hid (show accB A B D ps = false by rw [hAC.out]; simp [gS])
        clear gS hAC hS1 hM1
        generalize S / 18446744073709551616 = s0 at *
        generalize S % 18446744073709551616 = s1 at *
        go_wp2_with fail
        all_goals
          go_ret
          exact ⟨by rw [EA.out]; first | rfl | simp_all, hb0⟩
theorem raccept_any (A B D : Int) (v : Value) (ps : List PT) (w : World) (h : Pts w v ps) : Calls Try.prog 47 #[v, .agg #[.int .i64 A, .int .i64 B, .int .i64 D]] w fun e w' => e = .returned (.bool (accB A B D ps)) ∧ Below w.heap.size w w' := by
  by_cases he : ptsE ps = 0
  · by_cases hk : okL A B D = true
    · exact raccept_good A B D v ps w h he hk
    · have hk' : okL A B D = false := by simpa using hk
      have eA : accB A B D ps = false := by unfold accB; rw [hk']; simp
      rw [eA]
      have he' : (ptsE ps != 0) = false := by simp [he]
      clear he hk eA
      go_enter Try.func47, Try.ntmps47
      go_wp2_with (first | (go_at_call 59; refine (rpoints_any _ _ _ (h.below (by repeat (first | with_reducible exact Below.refl _ _ | with_reducible assumption | with_reducible refine Below.drew ?_ | with_reducible refine Below.setCell ?_ (by first | omega | (simp; omega) | simp) _ | with_reducible refine Below.alloc ?_ (by first | omega | (simp; omega) | simp) _ | with_reducible refine Below.trans ?_ (Below.mono (by with_reducible assumption) (by first | omega | (simp; omega) | simp)))))).mono ?_; rintro e w' ⟨rfl, hb⟩; (try clear hc hf); (try clear hcM hfM); (try clear hcN hfN); (first | ((first | replace hB := Below.next hB (Nat.le_refl _) hb | replace hB := Below.next1 hB (Nat.le_refl _) hb | replace hB := Below.next2 hB (Nat.le_refl _) hb); (first | replace hM := Below.next hM (Nat.le_refl _) hb | replace hM := Below.next1 hM (Nat.le_refl _) hb | replace hM := Below.next2 hM (Nat.le_refl _) hb); (first | replace hN := Below.next hN (Nat.le_refl _) hb | replace hN := Below.next1 hN (Nat.le_refl _) hb | replace hN := Below.next2 hN (Nat.le_refl _) hb)) | ((first | replace hB := Below.next hB (Nat.le_refl _) hb | replace hB := Below.next1 hB (Nat.le_refl _) hb | replace hB := Below.next2 hB (Nat.le_refl _) hb); (first | replace hM := Below.next hM (Nat.le_refl _) hb | replace hM := Below.next1 hM (Nat.le_refl _) hb | replace hM := Below.next2 hM (Nat.le_refl _) hb); have hN := Below.mid hb) | ((first | replace hB := Below.next hB (Nat.le_refl _) hb | replace hB := Below.next1 hB (Nat.le_refl _) hb | replace hB := Below.next2 hB (Nat.le_refl _) hb); (first | replace hM := Below.next hM (Nat.le_refl _) hb | replace hM := Below.next1 hM (Nat.le_refl _) hb | replace hM := Below.next2 hM (Nat.le_refl _) hb)) | ((first | replace hB := Below.next hB (Nat.le_refl _) hb | replace hB := Below.next1 hB (Nat.le_refl _) hb | replace hB := Below.next2 hB (Nat.le_refl _) hb); have hM := Below.mid hb) | (first | replace hB := Below.next hB (Nat.le_refl _) hb | replace hB := Below.next1 hB (Nat.le_refl _) hb | replace hB := Below.next2 hB (Nat.le_refl _) hb) | have hB := hb); obtain ⟨hc, hf, hz⟩ := after hB; (try (have hq := after hM; obtain ⟨hcM, hfM, hzM⟩ := hq)); (try (have hq := after hN; obtain ⟨hcN, hfN, hzN⟩ := hq)); have hs := hb.size; (try simp at hz); (try simp at hs)) | (go_at_call 62; refine (raccepted_any _ _ _ _).mono ?_; rintro e w' ⟨rfl, hb⟩; (try clear hc hf); (try clear hcM hfM); (try clear hcN hfN); (first | ((first | replace hB := Below.next hB (Nat.le_refl _) hb | replace hB := Below.next1 hB (Nat.le_refl _) hb | replace hB := Below.next2 hB (Nat.le_refl _) hb); (first | replace hM := Below.next hM (Nat.le_refl _) hb | replace hM := Below.next1 hM (Nat.le_refl _) hb | replace hM := Below.next2 hM (Nat.le_refl _) hb); (first | replace hN := Below.next hN (Nat.le_refl _) hb | replace hN := Below.next1 hN (Nat.le_refl _) hb | replace hN := Below.next2 hN (Nat.le_refl _) hb)) | ((first | replace hB := Below.next hB (Nat.le_refl _) hb | replace hB := Below.next1 hB (Nat.le_refl _) hb | replace hB := Below.next2 hB (Nat.le_refl _) hb); (first | replace hM := Below.next hM (Nat.le_refl _) hb | replace hM := Below.next1 hM (Nat.le_refl _) hb | replace hM := Below.next2 hM (Nat.le_refl _) hb); have hN := Below.mid hb) | ((first | replace hB := Below.next hB (Nat.le_refl _) hb | replace hB := Below.next1 hB (Nat.le_refl _) hb | replace hB := Below.next2 hB (Nat.le_refl _) hb); (first | replace hM := Below.next hM (Nat.le_refl _) hb | replace hM := Below.next1 hM (Nat.le_refl _) hb | replace hM := Below.next2 hM (Nat.le_refl _) hb)) | ((first | replace hB := Below.next hB (Nat.le_refl _) hb | replace hB := Below.next1 hB (Nat.le_refl _) hb | replace hB := Below.next2 hB (Nat.le_refl _) hb); have hM := Below.mid hb) | (first | replace hB := Below.next hB (Nat.le_refl _) hb | replace hB := Below.next1 hB (Nat.le_refl _) hb | replace hB := Below.next2 hB (Nat.le_refl _) hb) | have hB := hb); obtain ⟨hc, hf, hz⟩ := after hB; (try (have hq := after hM; obtain ⟨hcM, hfM, hzM⟩ := hq)); (try (have hq := after hN; obtain ⟨hcN, hfN, hzN⟩ := hq)); have hs := hb.size; (try simp at hz); (try simp at hs)))
      go_ret
      exact ⟨rfl, (by repeat (first | with_reducible exact Below.refl _ _ | with_reducible assumption | with_reducible refine Below.drew ?_ | with_reducible refine Below.setCell ?_ (by first | omega | (simp; omega) | simp) _ | with_reducible refine Below.alloc ?_ (by first | omega | (simp; omega) | simp) _ | with_reducible refine Below.trans ?_ (Below.mono (by with_reducible assumption) (by first | omega | (simp; omega) | simp))))⟩
  · have eA : accB A B D ps = false := by unfold accB; simp [he]
    rw [eA]
    have he' : (ptsE ps != 0) = true := by simpa using he
    clear he eA
    go_enter Try.func47, Try.ntmps47
    go_wp2_with (go_at_call 59; refine (rpoints_any _ _ _ (h.below (by repeat (first | with_reducible exact Below.refl _ _ | with_reducible assumption | with_reducible refine Below.drew ?_ | with_reducible refine Below.setCell ?_ (by first | omega | (simp; omega) | simp) _ | with_reducible refine Below.alloc ?_ (by first | omega | (simp; omega) | simp) _ | with_reducible refine Below.trans ?_ (Below.mono (by with_reducible assumption) (by first | omega | (simp; omega) | simp)))))).mono ?_; rintro e w' ⟨rfl, hb⟩; (try clear hc hf); (try clear hcM hfM); (try clear hcN hfN); (first | ((first | replace hB := Below.next hB (Nat.le_refl _) hb | replace hB := Below.next1 hB (Nat.le_refl _) hb | replace hB := Below.next2 hB (Nat.le_refl _) hb); (first | replace hM := Below.next hM (Nat.le_refl _) hb | replace hM := Below.next1 hM (Nat.le_refl _) hb | replace hM := Below.next2 hM (Nat.le_refl _) hb); (first | replace hN := Below.next hN (Nat.le_refl _) hb | replace hN := Below.next1 hN (Nat.le_refl _) hb | replace hN := Below.next2 hN (Nat.le_refl _) hb)) | ((first | replace hB := Below.next hB (Nat.le_refl _) hb | replace hB := Below.next1 hB (Nat.le_refl _) hb | replace hB := Below.next2 hB (Nat.le_refl _) hb); (first | replace hM := Below.next hM (Nat.le_refl _) hb | replace hM := Below.next1 hM (Nat.le_refl _) hb | replace hM := Below.next2 hM (Nat.le_refl _) hb); have hN := Below.mid hb) | ((first | replace hB := Below.next hB (Nat.le_refl _) hb | replace hB := Below.next1 hB (Nat.le_refl _) hb | replace hB := Below.next2 hB (Nat.le_refl _) hb); (first | replace hM := Below.next hM (Nat.le_refl _) hb | replace hM := Below.next1 hM (Nat.le_refl _) hb | replace hM := Below.next2 hM (Nat.le_refl _) hb)) | ((first | replace hB := Below.next hB (Nat.le_refl _) hb | replace hB := Below.next1 hB (Nat.le_refl _) hb | replace hB := Below.next2 hB (Nat.le_refl _) hb); have hM := Below.mid hb) | (first | replace hB := Below.next hB (Nat.le_refl _) hb | replace hB := Below.next1 hB (Nat.le_refl _) hb | replace hB := Below.next2 hB (Nat.le_refl _) hb) | have hB := hb); obtain ⟨hc, hf, hz⟩ := after hB; (try (have hq := after hM; obtain ⟨hcM, hfM, hzM⟩ := hq)); (try (have hq := after hN; obtain ⟨hcN, hfN, hzN⟩ := hq)); have hs := hb.size; (try simp at hz); (try simp at hs))
    go_ret
    exact ⟨rfl, (by repeat (first | with_reducible exact Below.refl _ _ | with_reducible assumption | with_reducible refine Below.drew ?_ | with_reducible refine Below.setCell ?_ (by first | omega | (simp; omega) | simp) _ | with_reducible refine Below.alloc ?_ (by first | omega | (simp; omega) | simp) _ | with_reducible refine Below.trans ?_ (Below.mono (by with_reducible assumption) (by first | omega | (simp; omega) | simp))))⟩
end Go.Proofs.Ytcppgigndpepnaa
