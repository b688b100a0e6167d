/-
  Contract of lsq.Accept.
  Conditions: none.
-/
import Derived.Test.YtcppgigndpepnaaAccept
namespace Go.Proofs.Ytcppgigndpepnaa
open Go.RowKit
theorem dev_parts {A B D : Int} {p : PT} (h : okL A B D = true) (hp : okP p = true) : (-1099511627776000000 ≤ D * p.2 ∧ D * p.2 ≤ 1099511627776000000) ∧ (-562949953421312000 ≤ B * p.1 ∧ B * p.1 ≤ 562949953421312000) ∧ (-1152921504606846976 ≤ A ∧ A ≤ 1152921504606846976) := by
  obtain ⟨⟨d1, d2⟩, ⟨a1, a2⟩, b1, b2⟩ := okL_iff h
  obtain ⟨⟨t1, t2⟩, v1, v2⟩ := okP_iff hp
  have q1 := mul_bd (A := 1099511627776) (B := 1000000) (a := D) (b := p.2) (by omega) (by omega) (by omega) (by omega)
  have q2 := mul_bd (A := 70368744177664) (B := 8000) (a := B) (b := p.1) (by omega) (by omega) (by omega) (by omega)
  omega
theorem dev_bd {A B D : Int} {p : PT} (h : okL A B D = true) (hp : okP p = true) : -3000000000000000000 ≤ dev A B D p ∧ dev A B D p ≤ 3000000000000000000 := by
  have := dev_parts h hp
  unfold dev
  omega
theorem devs_next {A B D : Int} {ps : List PT} {i : Nat} {p : PT} (hp : ps[i]? = some p) : sDev A B D (ps.take (i + 1)) = sDev A B D (ps.take i) + dev A B D p ∧ sMom A B D (ps.take (i + 1)) = sMom A B D (ps.take i) + dev A B D p * p.1 := by
  have h1 : ∀ l : List PT, sDev A B D (l ++ [p]) = sDev A B D l + dev A B D p := by
    intro l; induction l with
    | nil => simp [sDev]
    | cons q l ih => simp only [List.cons_append, sDev, ih]; omega
  have h2 : ∀ l : List PT, sMom A B D (l ++ [p]) = sMom A B D l + dev A B D p * p.1 := by
    intro l; induction l with
    | nil => simp [sMom]
    | cons q l ih => simp only [List.cons_append, sMom, ih]; omega
  rw [List.take_add_one, hp]
  exact ⟨h1 _, h2 _⟩
theorem devs_bd {A B D : Int} (h : okL A B D = true) : ∀ ps : List PT, ps.all okP = true → (-(ps.length * 3000000000000000000) ≤ sDev A B D ps ∧ sDev A B D ps ≤ ps.length * 3000000000000000000) ∧ (-(ps.length * 24000000000000000000000) ≤ sMom A B D ps ∧ sMom A B D ps ≤ ps.length * 24000000000000000000000)
  | [], _ => by simp [sDev, sMom]
  | p :: l, hp => by
    simp only [List.all_cons, Bool.and_eq_true] at hp
    have ih := devs_bd h l hp.2
    have hd := dev_bd h hp.1
    have ht := okP_iff hp.1
    have q := mul_bd (A := 3000000000000000000) (B := 8000) (a := dev A B D p) (b := p.1) (by omega) (by omega) (by omega) (by omega)
    simp only [sDev, sMom, List.length_cons, Int.natCast_add, Int.natCast_one, Int.add_mul, Int.one_mul]
    omega
theorem devs_take {A B D : Int} (h : okL A B D = true) {ps : List PT} (he : ptsE ps = 0) (i : Nat) : (-192000000000000000000 ≤ sDev A B D (ps.take i) ∧ sDev A B D (ps.take i) ≤ 192000000000000000000) ∧ (-1536000000000000000000000 ≤ sMom A B D (ps.take i) ∧ sMom A B D (ps.take i) ≤ 1536000000000000000000000) := by
  obtain ⟨h1, h2, _⟩ := ptsE_all he
  have hk : (ps.take i).all okP = true := List.all_eq_true.2 fun p hp => List.all_eq_true.1 h1 p (List.mem_of_mem_take hp)
  have hl : (ps.take i).length ≤ 64 := by rw [List.length_take]; omega
  have := devs_bd h _ hk
  omega
set_option maxHeartbeats 1000000 in
theorem deviation_any (A B D t v : Int) (h : okL A B D = true) (hp : okP (t, v) = true) (w : World) : Calls Try.prog 73 #[.agg #[.int .i64 t, .int .i64 v], .agg #[.int .i64 A, .int .i64 B, .int .i64 D]] w fun e w' => e = .returned (.int .i64 (dev A B D (t, v))) ∧ Below w.heap.size w w' := by
  obtain ⟨⟨p1, p2⟩, ⟨q1, q2⟩, a1, a2⟩ := dev_parts h hp
  simp only at p1 p2 q1 q2
  have e : dev A B D (t, v) = D * v - A - B * t := rfl
  rw [e]
  clear e h hp
  go_enter Try.func73, Try.ntmps73
  go_wp2_with fail
  go_ret
  exact ⟨rfl, (by repeat (first | with_reducible exact Below.refl _ _ | with_reducible assumption | with_reducible refine Below.drew ?_ | with_reducible refine Below.setCell ?_ (by first | omega | (simp; omega) | simp) _ | with_reducible refine Below.alloc ?_ (by first | omega | (simp; omega) | simp) _ | with_reducible refine Below.trans ?_ (Below.mono (by with_reducible assumption) (by first | omega | (simp; omega) | simp))))⟩
def accB (A B D : Int) (ps : List PT) : Bool := decide (ptsE ps = 0) && okL A B D && decide (sDev A B D ps = 0) && decide (sMom A B D ps = 0)
set_option maxRecDepth 100000 in
set_option maxHeartbeats 4000000 in
theorem accept_good (A B D : Int) (v : Value) (ps : List PT) (w : World) (h : Pts w v ps) (he : ptsE ps = 0) (hk : okL A B D = true) : Calls Try.prog 43 #[v, .agg #[.int .i64 A, .int .i64 B, .int .i64 D]] w fun e w' => e = .returned (.bool (accB A B D ps)) ∧ Below w.heap.size w w' := by
  have h0 := h
  obtain ⟨pa, b, o, cap, rfl, h1, h2, h3, h4⟩ := h
  have hcap : cap ≤ 9223372036854775807 := by unfold maxLen at h3; omega
  have hE := Lib.hid he
  obtain ⟨_, l64, _⟩ := ptsE_all he
  have hkk := Lib.hid hk
  go_enter Try.func43, Try.ntmps43
  go_wp2_with (first
    | (go_at_call 58; refine (points_any _ _ _ (h0.below (by repeat (first | with_reducible exact Below.refl _ _ | with_reducible assumption | with_reducible refine Below.drew ?_ | with_reducible refine Below.setCell ?_ (by first | omega | (simp; omega) | simp) _ | with_reducible refine Below.alloc ?_ (by first | omega | (simp; omega) | simp) _ | with_reducible refine Below.trans ?_ (Below.mono (by with_reducible assumption) (by first | omega | (simp; omega) | simp)))))).mono ?_; rintro e wA ⟨rfl, hbA⟩; have hKA : Below w.heap.size w wA := Below.trans (by repeat (first | with_reducible exact Below.refl _ _ | with_reducible assumption | with_reducible refine Below.drew ?_ | refine Below.setCell ?_ (by first | omega | (simp; done) | (simp; omega)) _ | refine Below.alloc ?_ (by first | omega | (simp; done) | (simp; omega)) _)) (hbA.mono (by first | (simp; done) | (simp; omega) | omega)); have hF := heap_old hbA (b := w.heap.size) (o := .cells #[.int .i64 A, .int .i64 B, .int .i64 D] 35) (by repeat (first | with_reducible refine heap_new _ _ (by first | omega | (simp; done) | (simp; omega)) | with_reducible apply heap_alloc)); have f0 := cell_heap (o := 0) hF rfl; have f1 := cell_heap (o := 1) hF rfl; have f2 := cell_heap (o := 2) hF rfl)
    | (go_at_call 60; refine (line_any' _ _ _ _).mono ?_; rintro e wB ⟨rfl, hbB⟩; have hK := Below.next hKA (Nat.le_refl _) hbB; replace hF := heap_old hbB hF))
  clear he hk f0 f1 f2 hbA hbB hKA
  have hlF : w.heap.size < wB.heap.size := (Array.getElem?_eq_some_iff.1 hF).1
  go_loopw [20] (fun x wr => ∃ i : Nat, i ≤ ps.length ∧ x = .int .i64 i ∧ Below w.heap.size w wr ∧ wr.heap[w.heap.size]? = some (.cells #[.int .i64 A, .int .i64 B, .int .i64 D] 35 (0, 0)) ∧ wr.heap[wB.heap.size]? = some (.cells #[.int .i64 ((sDev A B D (ps.take i)) / 18446744073709551616), .int .u64 ((sDev A B D (ps.take i)) % 18446744073709551616)] 65 (0, 0)) ∧ wr.heap[wB.heap.size + 1]? = some (.cells #[.int .i64 ((sMom A B D (ps.take i)) / 18446744073709551616), .int .u64 ((sMom A B D (ps.take i)) % 18446744073709551616)] 65 (0, 0))) (fun x _ => ps.length - (intOf x).toNat)
  case atStart => exact ⟨0, by omega, rfl, (hK.alloc (by omega) _).alloc (by simp; omega) _, heap_alloc (heap_alloc hF), heap_alloc (heap_new _ _ rfl), heap_new _ _ (by simp)⟩
  case round =>
    obtain ⟨i, hi, rfl, hb0, hF1, hS1, hM1⟩ := hrel
    have hb9 := devs_take hkk.out hE.out i
    have hls : wB.heap.size + 1 < wr.heap.size := (Array.getElem?_eq_some_iff.1 hM1).1
    rcases Nat.lt_or_ge i ps.length with hlt | hge
    · obtain rfl := h1 (by omega)
      have hx := (after hb0).1
      obtain ⟨p, hp⟩ : ∃ p, ps[i]? = some p := ⟨_, List.getElem?_eq_getElem hlt⟩
      obtain ⟨c0, c1⟩ := h4 i p hp
      replace c0 := (hx _ _ (by simp [c0])).trans c0
      replace c1 := (hx _ _ (by simp [c1])).trans c1
      have hokp : okP p = true := List.all_eq_true.1 (ptsE_all hE.out).1 p (List.mem_of_getElem? hp)
      have hdv := fun w => deviation_any A B D p.1 p.2 hkk.out hokp w
      have hbd := dev_bd hkk.out hokp
      obtain ⟨n1, n2⟩ := devs_next (A := A) (B := B) (D := D) hp
      have hb10 := devs_take hkk.out hE.out (i + 1)
      rw [n1, n2] at hb10
      have htb := okP_iff hokp
      have hN1 := Lib.hid n1
      have hN2 := Lib.hid n2
      have hn : ps.length - (i + 1) < ps.length - i := by omega
      change ∀ w, Calls Try.prog 73 _ w fun e w' => e = .returned (.int .i64 (dev A B D p)) ∧ Below w.heap.size w w' at hdv
      have hDV := Lib.hid hdv
      have f0 := cell_heap (o := 0) hF1 rfl
      have f1 := cell_heap (o := 1) hF1 rfl
      have f2 := cell_heap (o := 2) hF1 rfl
      have hq := mul_bd (A := 3000000000000000000) (B := 8000) (a := dev A B D p) (b := p.1) (by omega) (by omega) (by omega) (by omega)
      clear hp hx n1 n2 hokp hdv h4
      obtain ⟨⟨x1, x2⟩, x3, x4⟩ := hb9
      obtain ⟨⟨y1, y2⟩, y3, y4⟩ := hb10
      obtain ⟨z1, z2⟩ := hbd
      obtain ⟨q1, q2⟩ := hq
      obtain ⟨⟨t1, t2⟩, t3, t4⟩ := htb
      generalize sDev A B D (ps.take i) = S at *
      generalize sMom A B D (ps.take i) = M at *
      generalize dev A B D p = d at *
      go_wp2_with (go_at_call 73; refine (hDV.out _).mono ?_; rintro e w3 ⟨rfl, hb3⟩; have hK3 : Below w.heap.size w w3 := Below.trans (by repeat (first | with_reducible exact Below.refl _ _ | with_reducible assumption | with_reducible refine Below.drew ?_ | refine Below.setCell ?_ (by first | omega | (simp; done) | (simp; omega)) _ | refine Below.alloc ?_ (by first | omega | (simp; done) | (simp; omega)) _)) (hb3.mono (by first | (simp; done) | (simp; omega) | omega)); have hq3 := hb3.size; simp at hq3; have hF3 := heap_old hb3 (heap_alloc hF1); have hS3 := heap_old hb3 (heap_alloc hS1); have hM3 := heap_old hb3 (heap_alloc hM1); have hP3 := heap_old hb3 (heap_new wr (.cells #[.int .i64 p.1, .int .i64 p.2] 72) rfl); have s0c := cell_heap (o := 0) hS3 rfl; have s1c := cell_heap (o := 1) hS3 rfl)
      go_region_with (first
        | (go_at_call 40; refine (of_wide _ (by omega) (by omega) _).mono ?_; rintro e v1 ⟨rfl, hv1⟩; have hKv1 := Below.next hK3.drew (Nat.le_refl _) hv1; have hF4 := heap_old hv1 (heap_drew hF3); have hS4 := heap_old hv1 (heap_drew hS3); have hM4 := heap_old hv1 (heap_drew hM3); have hP4 := heap_old hv1 (heap_drew hP3); clear s0c s1c; have s0c := cell_heap (o := 0) hS4 rfl; have s1c := cell_heap (o := 1) hS4 rfl)
        | (go_at_call 41; refine (wadd_ok S d (by omega) (by omega) (by omega) (by omega) (by omega) (by omega) _).mono ?_; rintro e v2 ⟨rfl, hv2⟩; have hKv2 := Below.next hKv1 (Nat.le_refl _) hv2; have hF5 := heap_old hv2 hF4; have hS5 := heap_old hv2 hS4; have hM5 := heap_old hv2 hM4; have hP5 := heap_old hv2 hP4; clear s0c s1c; have s0c := cell_heap (o := 0) hS5 rfl; have s1c := cell_heap (o := 1) hS5 rfl; have s0f := frozen_heap (o := 0) hS5; have s1f := frozen_heap (o := 1) hS5))
      all_goals
        go_wp2_with fail
        clear s0c s1c s0f s1f
        have hK6 := (hKv2.setCell (p := ⟨wB.heap.size, 0, none⟩) (Nat.le_of_lt hlF) (.int .i64 ((S + d) / 18446744073709551616))).setCell (p := ⟨wB.heap.size, 1, none⟩) (Nat.le_of_lt hlF) (.int .u64 ((S + d) % 18446744073709551616))
        have hF6 := heap_set_other (g := wB.heap.size) (o := 1) (v := .int .u64 ((S + d) % 18446744073709551616)) (heap_set_other (g := wB.heap.size) (o := 0) (v := .int .i64 ((S + d) / 18446744073709551616)) hF5 (by omega)) (by omega)
        have hM6 := heap_set_other (g := wB.heap.size) (o := 1) (v := .int .u64 ((S + d) % 18446744073709551616)) (heap_set_other (g := wB.heap.size) (o := 0) (v := .int .i64 ((S + d) / 18446744073709551616)) hM5 (by omega)) (by omega)
        have hP6 := heap_set_other (g := wB.heap.size) (o := 1) (v := .int .u64 ((S + d) % 18446744073709551616)) (heap_set_other (g := wB.heap.size) (o := 0) (v := .int .i64 ((S + d) / 18446744073709551616)) hP5 (by omega)) (by omega)
        have hS6 := heap_set (o := 1) (v := .int .u64 ((S + d) % 18446744073709551616)) (heap_set (o := 0) (v := .int .i64 ((S + d) / 18446744073709551616)) hS5)
        simp only [List.setIfInBounds_toArray, List.set_cons_succ, List.set_cons_zero] at hS6
        generalize (v2.setCell ⟨wB.heap.size, 0, none⟩ (.int .i64 ((S + d) / 18446744073709551616))).setCell ⟨wB.heap.size, 1, none⟩ (.int .u64 ((S + d) % 18446744073709551616)) = w6 at hK6 hF6 hM6 hP6 hS6 ⊢
        have m0c := cell_heap (o := 0) hM6 rfl
        have m1c := cell_heap (o := 1) hM6 rfl
        have p0c := cell_heap (o := 0) hP6 rfl
        go_region_with (first
          | (go_at_call 42; refine (mul_any d p.1 (by omega) (by omega) (by omega) (by omega) _).mono ?_; rintro e v7 ⟨rfl, hv7⟩; have hK7 := Below.next hK6.drew (Nat.le_refl _) hv7; have hF7 := heap_old hv7 (heap_drew hF6); have hS7 := heap_old hv7 (heap_drew hS6); have hM7 := heap_old hv7 (heap_drew hM6); clear m0c m1c p0c; have m0c := cell_heap (o := 0) hM7 rfl; have m1c := cell_heap (o := 1) hM7 rfl)
          | (go_at_call 41; refine (wadd_ok M (d * p.1) (by omega) (by omega) (by omega) (by omega) (by omega) (by omega) _).mono ?_; rintro e v8 ⟨rfl, hv8⟩; have hK8 := Below.next hK7 (Nat.le_refl _) hv8; have hF8 := heap_old hv8 hF7; have hS8 := heap_old hv8 hS7; have hM8 := heap_old hv8 hM7; clear m0c m1c; have m0c := cell_heap (o := 0) hM8 rfl; have m1c := cell_heap (o := 1) hM8 rfl; have m0f := frozen_heap (o := 0) hM8; have m1f := frozen_heap (o := 1) hM8))
      all_goals
        go_wp2_with fail
        have hM9 := heap_set (o := 1) (v := .int .u64 ((M + d * p.1) % 18446744073709551616)) (heap_set (o := 0) (v := .int .i64 ((M + d * p.1) / 18446744073709551616)) hM8)
        simp only [List.setIfInBounds_toArray, List.set_cons_succ, List.set_cons_zero] at hM9
        refine ⟨⟨i + 1, hlt, by simp, (hK8.setCell (Nat.le_of_lt (Nat.lt_succ_of_lt hlF)) _).setCell (Nat.le_of_lt (Nat.lt_succ_of_lt hlF)) _, heap_set_other (heap_set_other hF8 (by omega)) (by omega), ?_, ?_⟩, by simpa [intOf] using hn⟩
        · rw [hN1.out]; exact heap_set_other (heap_set_other hS8 (by omega)) (by omega)
        · rw [hN2.out]; exact hM9
    · obtain rfl : i = ps.length := by omega
      rw [List.take_length] at hS1 hM1
      have hacc : accB A B D ps = (decide (sDev A B D ps = 0) && decide (sMom A B D ps = 0)) := by unfold accB; rw [hE.out, hkk.out]; simp
      have hAC := Lib.hid hacc
      have s0c := cell_heap (o := 0) hS1 rfl
      have s1c := cell_heap (o := 1) hS1 rfl
      have m0c := cell_heap (o := 0) hM1 rfl
      have m1c := cell_heap (o := 1) hM1 rfl
      clear hacc hb9 h4
      generalize sDev A B D ps = S at *
      generalize sMom A B D ps = M at *
      have hsg := fun w => sign_any S w
      have hmg := fun w => sign_any M w
      have HS := Lib.hid hsg
      have HM := Lib.hid hmg
      clear hsg hmg
      by_cases gS : S = 0
      · have eS : cmpV S 0 = 0 := by unfold cmpV; rw [if_neg (by omega), if_pos gS]
        by_cases gM : M = 0
        · have eM : cmpV M 0 = 0 := by unfold cmpV; rw [if_neg (by omega), if_pos gM]
          have eA : accB A B D ps = true := by rw [hAC.out]; simp [gS, gM]
          have EA := Lib.hid eA
          rw [eS] at HS
          rw [eM] at HM
          clear eS eM gS gM hAC eA
          go_wp2_with (first | (go_at_call_of 74 (S); refine (HS.out _).mono ?_; rintro e v1 ⟨rfl, hv1⟩; have hK1 := Below.next hb0 (Nat.le_refl _) hv1; replace hM1 := heap_old hv1 hM1; clear m0c m1c; have m0c := cell_heap (o := 0) hM1 rfl; have m1c := cell_heap (o := 1) hM1 rfl) | (go_at_call_of 74 (M); refine (HM.out _).mono ?_; rintro e v2 ⟨rfl, hv2⟩; replace hK1 := Below.next hK1 (Nat.le_refl _) hv2))
          go_ret
          exact ⟨by rw [EA.out]; rfl, hK1⟩
        · have eM : (cmpV M 0 == 0) = false := by rw [beq_eq_false_iff_ne]; unfold cmpV; split; · omega
                                                  · omega
          have eA : accB A B D ps = false := by rw [hAC.out]; simp [gM]
          have EA := Lib.hid eA
          rw [eS] at HS
          generalize cmpV M 0 = cM at *
          clear eS gS gM hAC eA
          go_wp2_with (first | (go_at_call_of 74 (S); refine (HS.out _).mono ?_; rintro e v1 ⟨rfl, hv1⟩; have hK1 := Below.next hb0 (Nat.le_refl _) hv1; replace hM1 := heap_old hv1 hM1; clear m0c m1c; have m0c := cell_heap (o := 0) hM1 rfl; have m1c := cell_heap (o := 1) hM1 rfl) | (go_at_call_of 74 (M); refine (HM.out _).mono ?_; rintro e v2 ⟨rfl, hv2⟩; replace hK1 := Below.next hK1 (Nat.le_refl _) hv2))
          go_ret
          exact ⟨by rw [EA.out]; rfl, hK1⟩
      · have eS : (cmpV S 0 == 0) = false := by rw [beq_eq_false_iff_ne]; unfold cmpV; split; · omega
                                                · omega
        have eA : accB A B D ps = false := by rw [hAC.out]; simp [gS]
        have EA := Lib.hid eA
        generalize cmpV S 0 = cS at *
        clear gS hAC eA
        go_wp2_with (go_at_call_of 74 (S); refine (HS.out _).mono ?_; rintro e v1 ⟨rfl, hv1⟩; have hK1 := Below.next hb0 (Nat.le_refl _) hv1)
        go_ret
        exact ⟨by rw [EA.out]; rfl, hK1⟩
theorem accept_any (A B D : Int) (v : Value) (ps : List PT) (w : World) (h : Pts w v ps) : Calls Try.prog 43 #[v, .agg #[.int .i64 A, .int .i64 B, .int .i64 D]] w fun e w' => e = .returned (.bool (accB A B D ps)) ∧ Below w.heap.size w w' := by
  by_cases he : ptsE ps = 0
  · by_cases hk : okL A B D = true
    · exact accept_good A B D v ps w h he hk
    · have hk' : okL A B D = false := by simpa using hk
      have eA : accB A B D ps = false := by unfold accB; rw [hk']; simp
      rw [eA]
      have he' : (ptsE ps != 0) = false := by simp [he]
      clear he hk eA
      go_enter Try.func43, Try.ntmps43
      go_wp2_with (first | (go_at_call 58; refine (points_any _ _ _ (h.below (by repeat (first | with_reducible exact Below.refl _ _ | with_reducible assumption | with_reducible refine Below.drew ?_ | with_reducible refine Below.setCell ?_ (by first | omega | (simp; omega) | simp) _ | with_reducible refine Below.alloc ?_ (by first | omega | (simp; omega) | simp) _ | with_reducible refine Below.trans ?_ (Below.mono (by with_reducible assumption) (by first | omega | (simp; omega) | simp)))))).mono ?_; rintro e w' ⟨rfl, hb⟩; (try clear hc hf); (try clear hcM hfM); (try clear hcN hfN); (first | ((first | replace hB := Below.next hB (Nat.le_refl _) hb | replace hB := Below.next1 hB (Nat.le_refl _) hb | replace hB := Below.next2 hB (Nat.le_refl _) hb); (first | replace hM := Below.next hM (Nat.le_refl _) hb | replace hM := Below.next1 hM (Nat.le_refl _) hb | replace hM := Below.next2 hM (Nat.le_refl _) hb); (first | replace hN := Below.next hN (Nat.le_refl _) hb | replace hN := Below.next1 hN (Nat.le_refl _) hb | replace hN := Below.next2 hN (Nat.le_refl _) hb)) | ((first | replace hB := Below.next hB (Nat.le_refl _) hb | replace hB := Below.next1 hB (Nat.le_refl _) hb | replace hB := Below.next2 hB (Nat.le_refl _) hb); (first | replace hM := Below.next hM (Nat.le_refl _) hb | replace hM := Below.next1 hM (Nat.le_refl _) hb | replace hM := Below.next2 hM (Nat.le_refl _) hb); have hN := Below.mid hb) | ((first | replace hB := Below.next hB (Nat.le_refl _) hb | replace hB := Below.next1 hB (Nat.le_refl _) hb | replace hB := Below.next2 hB (Nat.le_refl _) hb); (first | replace hM := Below.next hM (Nat.le_refl _) hb | replace hM := Below.next1 hM (Nat.le_refl _) hb | replace hM := Below.next2 hM (Nat.le_refl _) hb)) | ((first | replace hB := Below.next hB (Nat.le_refl _) hb | replace hB := Below.next1 hB (Nat.le_refl _) hb | replace hB := Below.next2 hB (Nat.le_refl _) hb); have hM := Below.mid hb) | (first | replace hB := Below.next hB (Nat.le_refl _) hb | replace hB := Below.next1 hB (Nat.le_refl _) hb | replace hB := Below.next2 hB (Nat.le_refl _) hb) | have hB := hb); obtain ⟨hc, hf, hz⟩ := after hB; (try (have hq := after hM; obtain ⟨hcM, hfM, hzM⟩ := hq)); (try (have hq := after hN; obtain ⟨hcN, hfN, hzN⟩ := hq)); have hs := hb.size; (try simp at hz); (try simp at hs)) | (go_at_call 60; refine (line_any' _ _ _ _).mono ?_; rintro e w' ⟨rfl, hb⟩; (try clear hc hf); (try clear hcM hfM); (try clear hcN hfN); (first | ((first | replace hB := Below.next hB (Nat.le_refl _) hb | replace hB := Below.next1 hB (Nat.le_refl _) hb | replace hB := Below.next2 hB (Nat.le_refl _) hb); (first | replace hM := Below.next hM (Nat.le_refl _) hb | replace hM := Below.next1 hM (Nat.le_refl _) hb | replace hM := Below.next2 hM (Nat.le_refl _) hb); (first | replace hN := Below.next hN (Nat.le_refl _) hb | replace hN := Below.next1 hN (Nat.le_refl _) hb | replace hN := Below.next2 hN (Nat.le_refl _) hb)) | ((first | replace hB := Below.next hB (Nat.le_refl _) hb | replace hB := Below.next1 hB (Nat.le_refl _) hb | replace hB := Below.next2 hB (Nat.le_refl _) hb); (first | replace hM := Below.next hM (Nat.le_refl _) hb | replace hM := Below.next1 hM (Nat.le_refl _) hb | replace hM := Below.next2 hM (Nat.le_refl _) hb); have hN := Below.mid hb) | ((first | replace hB := Below.next hB (Nat.le_refl _) hb | replace hB := Below.next1 hB (Nat.le_refl _) hb | replace hB := Below.next2 hB (Nat.le_refl _) hb); (first | replace hM := Below.next hM (Nat.le_refl _) hb | replace hM := Below.next1 hM (Nat.le_refl _) hb | replace hM := Below.next2 hM (Nat.le_refl _) hb)) | ((first | replace hB := Below.next hB (Nat.le_refl _) hb | replace hB := Below.next1 hB (Nat.le_refl _) hb | replace hB := Below.next2 hB (Nat.le_refl _) hb); have hM := Below.mid hb) | (first | replace hB := Below.next hB (Nat.le_refl _) hb | replace hB := Below.next1 hB (Nat.le_refl _) hb | replace hB := Below.next2 hB (Nat.le_refl _) hb) | have hB := hb); obtain ⟨hc, hf, hz⟩ := after hB; (try (have hq := after hM; obtain ⟨hcM, hfM, hzM⟩ := hq)); (try (have hq := after hN; obtain ⟨hcN, hfN, hzN⟩ := hq)); have hs := hb.size; (try simp at hz); (try simp at hs)))
      go_ret
      exact ⟨rfl, (by repeat (first | with_reducible exact Below.refl _ _ | with_reducible assumption | with_reducible refine Below.drew ?_ | with_reducible refine Below.setCell ?_ (by first | omega | (simp; omega) | simp) _ | with_reducible refine Below.alloc ?_ (by first | omega | (simp; omega) | simp) _ | with_reducible refine Below.trans ?_ (Below.mono (by with_reducible assumption) (by first | omega | (simp; omega) | simp))))⟩
  · have eA : accB A B D ps = false := by unfold accB; simp [he]
    rw [eA]
    have he' : (ptsE ps != 0) = true := by simpa using he
    clear he eA
    go_enter Try.func43, Try.ntmps43
    go_wp2_with (go_at_call 58; refine (points_any _ _ _ (h.below (by repeat (first | with_reducible exact Below.refl _ _ | with_reducible assumption | with_reducible refine Below.drew ?_ | with_reducible refine Below.setCell ?_ (by first | omega | (simp; omega) | simp) _ | with_reducible refine Below.alloc ?_ (by first | omega | (simp; omega) | simp) _ | with_reducible refine Below.trans ?_ (Below.mono (by with_reducible assumption) (by first | omega | (simp; omega) | simp)))))).mono ?_; rintro e w' ⟨rfl, hb⟩; (try clear hc hf); (try clear hcM hfM); (try clear hcN hfN); (first | ((first | replace hB := Below.next hB (Nat.le_refl _) hb | replace hB := Below.next1 hB (Nat.le_refl _) hb | replace hB := Below.next2 hB (Nat.le_refl _) hb); (first | replace hM := Below.next hM (Nat.le_refl _) hb | replace hM := Below.next1 hM (Nat.le_refl _) hb | replace hM := Below.next2 hM (Nat.le_refl _) hb); (first | replace hN := Below.next hN (Nat.le_refl _) hb | replace hN := Below.next1 hN (Nat.le_refl _) hb | replace hN := Below.next2 hN (Nat.le_refl _) hb)) | ((first | replace hB := Below.next hB (Nat.le_refl _) hb | replace hB := Below.next1 hB (Nat.le_refl _) hb | replace hB := Below.next2 hB (Nat.le_refl _) hb); (first | replace hM := Below.next hM (Nat.le_refl _) hb | replace hM := Below.next1 hM (Nat.le_refl _) hb | replace hM := Below.next2 hM (Nat.le_refl _) hb); have hN := Below.mid hb) | ((first | replace hB := Below.next hB (Nat.le_refl _) hb | replace hB := Below.next1 hB (Nat.le_refl _) hb | replace hB := Below.next2 hB (Nat.le_refl _) hb); (first | replace hM := Below.next hM (Nat.le_refl _) hb | replace hM := Below.next1 hM (Nat.le_refl _) hb | replace hM := Below.next2 hM (Nat.le_refl _) hb)) | ((first | replace hB := Below.next hB (Nat.le_refl _) hb | replace hB := Below.next1 hB (Nat.le_refl _) hb | replace hB := Below.next2 hB (Nat.le_refl _) hb); have hM := Below.mid hb) | (first | replace hB := Below.next hB (Nat.le_refl _) hb | replace hB := Below.next1 hB (Nat.le_refl _) hb | replace hB := Below.next2 hB (Nat.le_refl _) hb) | have hB := hb); obtain ⟨hc, hf, hz⟩ := after hB; (try (have hq := after hM; obtain ⟨hcM, hfM, hzM⟩ := hq)); (try (have hq := after hN; obtain ⟨hcN, hfN, hzN⟩ := hq)); have hs := hb.size; (try simp at hz); (try simp at hs))
    go_ret
    exact ⟨rfl, (by repeat (first | with_reducible exact Below.refl _ _ | with_reducible assumption | with_reducible refine Below.drew ?_ | with_reducible refine Below.setCell ?_ (by first | omega | (simp; omega) | simp) _ | with_reducible refine Below.alloc ?_ (by first | omega | (simp; omega) | simp) _ | with_reducible refine Below.trans ?_ (Below.mono (by with_reducible assumption) (by first | omega | (simp; omega) | simp))))⟩
end Go.Proofs.Ytcppgigndpepnaa
