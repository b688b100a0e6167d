/-
  Contracts and laws, merged: Bounce Across Decide.
  Conditions: none.
-/
import Derived.Test.YtmdledlbkdcmnaaM2
import Derived.Test.YtmdledlbkdcmnaaM14
import Derived.Test.YtmdledlbkdcmnaaM13
import Derived.Test.YtmdledlbkdcmnaaM5
import Derived.Test.YtmdledlbkdcmnaaM10
set_option linter.unusedSimpArgs false
set_option linter.unusedVariables false
/-
  Contracts of Bounce with its second result, ours and the reference's.
  Conditions: none.
-/
namespace Go.Proofs.Ytmdledlbkdcmnaa
open Go.RowKit
def bncQ (l : List SN) : Bool := decide (bncK l ≠ 0)
theorem ret_bn2 {w w' : World} {l : List SN} {a : Int} {q : Bool} (h : a = (bncK l : Int)) (hq : q = decide (a ≠ 0)) (hb : Below w.heap.size w w') : Ending.returned (.tuple #[.int .i64 a, .bool q]) = .returned (.tuple #[.int .i64 (bncK l), .bool (bncQ l)]) ∧ Below w.heap.size w w' := by
  refine ⟨?_, hb⟩
  rw [hq, h]
  unfold bncQ
  congr 4
  simp
set_option maxRecDepth 100000 in
set_option maxHeartbeats 4000000 in
theorem bounce_ok (v : Value) (l : List SN) (w : World) (h : Seens w v l) : Calls Try.prog 25 #[v] w fun e w' => e = .returned (.tuple #[.int .i64 (bncK l), .bool (bncQ l)]) ∧ Below w.heap.size w w' := by
  have h0 := h
  obtain ⟨pa, b, o, cap, rfl, h1, h2, h3, h4⟩ := h
  have hcap : cap ≤ 9223372036854775807 := by unfold maxLen at h3; omega
  by_cases hc : chkE l = 0
  · have hl64 := chkE_len hc
    have hC := Lib.hid hc
    have hc' : (chkE l != 0) = false := by simp [hc]
    clear hc
    go_enter Try.func25, Try.ntmps25
    go_wp2_with (go_at_call 66; refine (check_any _ _ _ (h0.below (by repeat (first | with_reducible exact Below.refl _ _ | with_reducible assumption | with_reducible refine Below.drew ?_ | with_reducible refine Below.setCell ?_ (by first | omega | (simp; omega) | simp) _ | with_reducible refine Below.alloc ?_ (by first | omega | (simp; omega) | simp) _ | with_reducible refine Below.trans ?_ (Below.mono (by with_reducible assumption) (by first | omega | (simp; omega) | simp)))))).mono ?_; rintro e w1 ⟨⟨k0, rfl⟩, hb1⟩)
    go_loopw [6, 18] (fun y x wr => ∃ i : Nat, i ≤ l.length ∧ x = .int .i64 i ∧ y = .int .i64 (minAt l i : Nat) ∧ Below w.heap.size w wr) (fun _ x _ => l.length - (intOf x).toNat)
    case atStart => exact ⟨0, by omega, rfl, rfl, hb1⟩
    case round =>
      obtain ⟨i, hi, rfl, rfl, hb0⟩ := hrel
      rcases Nat.lt_or_ge i l.length with hlt | hge
      · obtain rfl := h1 (by omega)
        obtain ⟨s, hs⟩ : ∃ s, l[i]? = some s := ⟨_, List.getElem?_eq_getElem hlt⟩
        obtain ⟨c0, c1, c2, c3, c4⟩ := (h4 i s hs).below hb0
        have hml := minAt_lt (l := l) i (by omega) (by omega)
        obtain ⟨r, hr⟩ : ∃ r, l[minAt l i]? = some r := ⟨_, List.getElem?_eq_getElem hml⟩
        have hM := Lib.hid (minAt_next hs hr)
        obtain ⟨_, _, _, d3, _⟩ := (h4 _ r hr).below hb0
        have hsz := hb0.size
        have hn : l.length - (i + 1) < l.length - i := by omega
        clear hs hr
        generalize minAt l i = m at *
        go_wp2_with fail
        have y0 : (wr.alloc (.cells #[.int .i64 s.1, .int .i64 s.2.1, .int .i64 s.2.2.1, .int .i64 s.2.2.2.1, .int .i64 s.2.2.2.2] 38)).cell? ⟨wr.heap.size, 3, none⟩ = some (.int .i64 s.2.2.2.1) := by simp [go_sem]
        have y1 := (cell_alloc_old wr (.cells #[.int .i64 s.1, .int .i64 s.2.1, .int .i64 s.2.2.1, .int .i64 s.2.2.2.1, .int .i64 s.2.2.2.2] 38) b (o + m * 5 + 3) (by simp [d3])).trans d3
        have hl := @Later.cell
        refine region_later (by kernel_rfl) (by kernel_rfl) ?_; (repeat (go_big_quiet_step (fail))); refine wpQuiet_nil ?_; rintro _ ⟨x, rfl⟩; obtain ⟨w', hb⟩ := x; (try clear hc hf); (try clear hcM hfM); (try clear hcN hfN); (first | ((first | replace hB := Below.next hB (Nat.le_refl _) hb | replace hB := Below.next1 hB (Nat.le_refl _) hb | replace hB := Below.next2 hB (Nat.le_refl _) hb); (first | replace hM := Below.next hM (Nat.le_refl _) hb | replace hM := Below.next1 hM (Nat.le_refl _) hb | replace hM := Below.next2 hM (Nat.le_refl _) hb); (first | replace hN := Below.next hN (Nat.le_refl _) hb | replace hN := Below.next1 hN (Nat.le_refl _) hb | replace hN := Below.next2 hN (Nat.le_refl _) hb)) | ((first | replace hB := Below.next hB (Nat.le_refl _) hb | replace hB := Below.next1 hB (Nat.le_refl _) hb | replace hB := Below.next2 hB (Nat.le_refl _) hb); (first | replace hM := Below.next hM (Nat.le_refl _) hb | replace hM := Below.next1 hM (Nat.le_refl _) hb | replace hM := Below.next2 hM (Nat.le_refl _) hb); have hN := Below.mid hb) | ((first | replace hB := Below.next hB (Nat.le_refl _) hb | replace hB := Below.next1 hB (Nat.le_refl _) hb | replace hB := Below.next2 hB (Nat.le_refl _) hb); (first | replace hM := Below.next hM (Nat.le_refl _) hb | replace hM := Below.next1 hM (Nat.le_refl _) hb | replace hM := Below.next2 hM (Nat.le_refl _) hb)) | ((first | replace hB := Below.next hB (Nat.le_refl _) hb | replace hB := Below.next1 hB (Nat.le_refl _) hb | replace hB := Below.next2 hB (Nat.le_refl _) hb); have hM := Below.mid hb) | (first | replace hB := Below.next hB (Nat.le_refl _) hb | replace hB := Below.next1 hB (Nat.le_refl _) hb | replace hB := Below.next2 hB (Nat.le_refl _) hb) | have hB := hb); obtain ⟨hc, hf, hz⟩ := after hB; (try (have hq := after hM; obtain ⟨hcM, hfM, hzM⟩ := hq)); (try (have hq := after hN; obtain ⟨hcN, hfN, hzN⟩ := hq)); have hs := hb.size; (try simp at hz); (try simp at hs)
        have hK := Below.next1 hb0 (Nat.le_refl _) hb
        go_wp2_with fail
        · exact ⟨⟨i + 1, hlt, by simp, by rw [hM.out, if_pos ‹_›], hK⟩, by simpa [intOf] using hn⟩
        · exact ⟨⟨i + 1, hlt, by simp, by rw [hM.out, if_neg (by omega)], hK⟩, by simpa [intOf] using hn⟩
      · obtain rfl : i = l.length := by omega
        rcases Nat.eq_zero_or_pos l.length with hz | hpos
        · have hm0 : minAt l l.length = 0 := by rw [hz]; rfl
          rw [hm0]
          have hbz := bncK_zero hm0 (.inl rfl)
          have hZ := Lib.hid hbz
          clear hbz hm0 hge hi
          go_wp2_with fail
          go_ret2
          exact ret_bn2 (by rw [hZ.out]; rfl) (by first | rfl | exact (decide_eq_true (by omega)).symm) hb0
        · obtain rfl := h1 hpos
          have hml := minAt_lt (l := l) l.length (Nat.le_refl _) hpos
          obtain ⟨r, hr⟩ : ∃ r, l[minAt l l.length]? = some r := ⟨_, List.getElem?_eq_getElem hml⟩
          obtain ⟨_, _, _, d3, _⟩ := (h4 _ r hr).below hb0
          have hh : heightAt l (minAt l l.length) = r.2.2.2.1 := by unfold heightAt; rw [hr]
          have hH := Lib.hid hh
          clear hr hh
          generalize hmm : minAt l l.length = m at *
          have hm := Lib.hid hmm
          clear hmm hge hi
          go_wp2_with fail
          all_goals
            go_ret2
            refine ret_bn2 (l := l) ?_ ?_ hb0
            · first
              | (rw [bncK_zero hm.out (.inl (by omega))]; rfl)
              | (rw [bncK_zero hm.out (.inr (.inl (by omega)))]; rfl)
              | (have h3 : 1000 < heightAt l m := by rw [hH.out]; grind
                 rw [bncK_zero hm.out (.inr (.inr h3))]; rfl)
              | (rw [bncK_some hC.out hm.out (by omega) (by omega) (by rw [hH.out]; omega)])
            · first | rfl | exact (decide_eq_true (by omega)).symm
  · have e1 : bncK l = 0 := by unfold bncK; rw [if_neg hc]
    have hc' : (chkE l != 0) = true := by simp [hc]
    have e2 : bncQ l = false := by unfold bncQ; rw [e1]; rfl
    rw [e1, e2]
    clear hc e1 e2
    go_enter Try.func25, Try.ntmps25
    go_wp2_with (go_at_call 66; refine (check_any _ _ _ (h0.below (by repeat (first | with_reducible exact Below.refl _ _ | with_reducible assumption | with_reducible refine Below.drew ?_ | with_reducible refine Below.setCell ?_ (by first | omega | (simp; omega) | simp) _ | with_reducible refine Below.alloc ?_ (by first | omega | (simp; omega) | simp) _ | with_reducible refine Below.trans ?_ (Below.mono (by with_reducible assumption) (by first | omega | (simp; omega) | simp)))))).mono ?_; rintro e w1 ⟨⟨k0, rfl⟩, hb1⟩)
    go_ret2
    exact ⟨rfl, hb1⟩
set_option maxRecDepth 100000 in
set_option maxHeartbeats 4000000 in
theorem rbounce_ok (v : Value) (l : List SN) (w : World) (h : Seens w v l) : Calls Try.prog 89 #[v] w fun e w' => e = .returned (.tuple #[.int .i64 (bncK l), .bool (bncQ l)]) ∧ Below w.heap.size w w' := by
  have h0 := h
  obtain ⟨pa, b, o, cap, rfl, h1, h2, h3, h4⟩ := h
  have hcap : cap ≤ 9223372036854775807 := by unfold maxLen at h3; omega
  rcases Nat.eq_zero_or_pos l.length with hz | hp0
  · obtain rfl : l = [] := List.eq_nil_of_length_eq_zero hz
    replace h0 : Seens w (.slice pa 0 cap) [] := h0
    have hb0 : bncK [] = 0 := by decide
    have hc0 : (chkE [] != 0) = false := by decide
    clear hz h4 h1 h2
    rw [hb0, show bncQ [] = false from by decide]
    go_enter Try.func89, Try.ntmps89
    go_wp2_with (go_at_call 96; refine (rcheck_any _ _ _ (h0.below (by repeat (first | with_reducible exact Below.refl _ _ | with_reducible assumption | with_reducible refine Below.drew ?_ | with_reducible refine Below.setCell ?_ (by first | omega | (simp; omega) | simp) _ | with_reducible refine Below.alloc ?_ (by first | omega | (simp; omega) | simp) _ | with_reducible refine Below.trans ?_ (Below.mono (by with_reducible assumption) (by first | omega | (simp; omega) | simp)))))).mono ?_; rintro e w1 ⟨⟨k0, rfl⟩, hb1⟩)
    go_ret2
    exact ⟨rfl, hb1⟩
  obtain rfl := h1 hp0
  clear h1
  by_cases hc : chkE l = 0
  · have hl64 := chkE_len hc
    have hC := Lib.hid hc
    have hc' : (chkE l != 0) = false := by simp [hc]
    have hnz : ((l.length : Int) == 0) = false := by rw [beq_eq_false_iff_ne]; omega
    clear hc
    go_enter Try.func89, Try.ntmps89
    go_wp2_with (go_at_call 96; refine (rcheck_any _ _ _ (h0.below (by repeat (first | with_reducible exact Below.refl _ _ | with_reducible assumption | with_reducible refine Below.drew ?_ | with_reducible refine Below.setCell ?_ (by first | omega | (simp; omega) | simp) _ | with_reducible refine Below.alloc ?_ (by first | omega | (simp; omega) | simp) _ | with_reducible refine Below.trans ?_ (Below.mono (by with_reducible assumption) (by first | omega | (simp; omega) | simp)))))).mono ?_; rintro e w1 ⟨⟨k0, rfl⟩, hb1⟩)
    go_loopw [6, 23] (fun y x wr => ∃ i : Nat, i ≤ l.length ∧ x = .int .i64 i ∧ y = .int .i64 (minAt l i : Nat) ∧ Below w.heap.size w wr) (fun _ x _ => l.length - (intOf x).toNat)
    case atStart => exact ⟨0, by omega, rfl, rfl, hb1⟩
    case round =>
      obtain ⟨i, hi, rfl, rfl, hb0⟩ := hrel
      rcases Nat.lt_or_ge i l.length with hlt | hge
      · obtain ⟨s, hs⟩ : ∃ s, l[i]? = some s := ⟨_, List.getElem?_eq_getElem hlt⟩
        obtain ⟨c0, c1, c2, c3, c4⟩ := (h4 i s hs).below hb0
        have hml := minAt_lt (l := l) i (by omega) (by omega)
        obtain ⟨r, hr⟩ : ∃ r, l[minAt l i]? = some r := ⟨_, List.getElem?_eq_getElem hml⟩
        have hM := Lib.hid (minAt_next hs hr)
        obtain ⟨_, _, _, d3, _⟩ := (h4 _ r hr).below hb0
        have hsz := hb0.size
        have hn : l.length - (i + 1) < l.length - i := by omega
        clear hs hr
        generalize minAt l i = m at *
        go_wp2_with fail
        have y0 : (wr.alloc (.cells #[.int .i64 s.1, .int .i64 s.2.1, .int .i64 s.2.2.1, .int .i64 s.2.2.2.1, .int .i64 s.2.2.2.2] 38)).cell? ⟨wr.heap.size, 3, none⟩ = some (.int .i64 s.2.2.2.1) := by simp [go_sem]
        have y1 := (cell_alloc_old wr (.cells #[.int .i64 s.1, .int .i64 s.2.1, .int .i64 s.2.2.1, .int .i64 s.2.2.2.1, .int .i64 s.2.2.2.2] 38) b (o + m * 5 + 3) (by simp [d3])).trans d3
        have hl := @Later.cell
        refine region_later (by kernel_rfl) (by kernel_rfl) ?_; (repeat (go_big_quiet_step (fail))); refine wpQuiet_nil ?_; rintro _ ⟨x, rfl⟩; obtain ⟨w', hb⟩ := x; (try clear hc hf); (try clear hcM hfM); (try clear hcN hfN); (first | ((first | replace hB := Below.next hB (Nat.le_refl _) hb | replace hB := Below.next1 hB (Nat.le_refl _) hb | replace hB := Below.next2 hB (Nat.le_refl _) hb); (first | replace hM := Below.next hM (Nat.le_refl _) hb | replace hM := Below.next1 hM (Nat.le_refl _) hb | replace hM := Below.next2 hM (Nat.le_refl _) hb); (first | replace hN := Below.next hN (Nat.le_refl _) hb | replace hN := Below.next1 hN (Nat.le_refl _) hb | replace hN := Below.next2 hN (Nat.le_refl _) hb)) | ((first | replace hB := Below.next hB (Nat.le_refl _) hb | replace hB := Below.next1 hB (Nat.le_refl _) hb | replace hB := Below.next2 hB (Nat.le_refl _) hb); (first | replace hM := Below.next hM (Nat.le_refl _) hb | replace hM := Below.next1 hM (Nat.le_refl _) hb | replace hM := Below.next2 hM (Nat.le_refl _) hb); have hN := Below.mid hb) | ((first | replace hB := Below.next hB (Nat.le_refl _) hb | replace hB := Below.next1 hB (Nat.le_refl _) hb | replace hB := Below.next2 hB (Nat.le_refl _) hb); (first | replace hM := Below.next hM (Nat.le_refl _) hb | replace hM := Below.next1 hM (Nat.le_refl _) hb | replace hM := Below.next2 hM (Nat.le_refl _) hb)) | ((first | replace hB := Below.next hB (Nat.le_refl _) hb | replace hB := Below.next1 hB (Nat.le_refl _) hb | replace hB := Below.next2 hB (Nat.le_refl _) hb); have hM := Below.mid hb) | (first | replace hB := Below.next hB (Nat.le_refl _) hb | replace hB := Below.next1 hB (Nat.le_refl _) hb | replace hB := Below.next2 hB (Nat.le_refl _) hb) | have hB := hb); obtain ⟨hc, hf, hz⟩ := after hB; (try (have hq := after hM; obtain ⟨hcM, hfM, hzM⟩ := hq)); (try (have hq := after hN; obtain ⟨hcN, hfN, hzN⟩ := hq)); have hs := hb.size; (try simp at hz); (try simp at hs)
        have hK := Below.next1 hb0 (Nat.le_refl _) hb
        go_wp2_with fail
        · exact ⟨⟨i + 1, hlt, by simp, by rw [hM.out, if_pos ‹_›], hK⟩, by simpa [intOf] using hn⟩
        · exact ⟨⟨i + 1, hlt, by simp, by rw [hM.out, if_neg (by omega)], hK⟩, by simpa [intOf] using hn⟩
      · obtain rfl : i = l.length := by omega
        · have hpos := hp0
          have hml := minAt_lt (l := l) l.length (Nat.le_refl _) hpos
          obtain ⟨r, hr⟩ : ∃ r, l[minAt l l.length]? = some r := ⟨_, List.getElem?_eq_getElem hml⟩
          obtain ⟨_, _, _, d3, _⟩ := (h4 _ r hr).below hb0
          have hh : heightAt l (minAt l l.length) = r.2.2.2.1 := by unfold heightAt; rw [hr]
          have hH := Lib.hid hh
          clear hr hh
          generalize hmm : minAt l l.length = m at *
          have hm := Lib.hid hmm
          clear hmm hge hi
          go_wp2_with fail
          all_goals
            go_ret2
            refine ret_bn2 (l := l) ?_ ?_ hb0
            · first
              | (rw [bncK_zero hm.out (.inl (by omega))]; rfl)
              | (rw [bncK_zero hm.out (.inr (.inl (by omega)))]; rfl)
              | (have h3 : 1000 < heightAt l m := by rw [hH.out]; grind
                 rw [bncK_zero hm.out (.inr (.inr h3))]; rfl)
              | (rw [bncK_some hC.out hm.out (by omega) (by omega) (by rw [hH.out]; omega)])
            · first | rfl | exact (decide_eq_true (by omega)).symm
  · have e1 : bncK l = 0 := by unfold bncK; rw [if_neg hc]
    have hc' : (chkE l != 0) = true := by simp [hc]
    have e2 : bncQ l = false := by unfold bncQ; rw [e1]; rfl
    rw [e1, e2]
    clear hc e1 e2
    go_enter Try.func89, Try.ntmps89
    go_wp2_with (go_at_call 96; refine (rcheck_any _ _ _ (h0.below (by repeat (first | with_reducible exact Below.refl _ _ | with_reducible assumption | with_reducible refine Below.drew ?_ | with_reducible refine Below.setCell ?_ (by first | omega | (simp; omega) | simp) _ | with_reducible refine Below.alloc ?_ (by first | omega | (simp; omega) | simp) _ | with_reducible refine Below.trans ?_ (Below.mono (by with_reducible assumption) (by first | omega | (simp; omega) | simp)))))).mono ?_; rintro e w1 ⟨⟨k0, rfl⟩, hb1⟩)
    go_ret2
    exact ⟨rfl, hb1⟩
end Go.Proofs.Ytmdledlbkdcmnaa

/-
  Contracts of interval.Around and of the place across the pitch, ours and the reference's.
  Conditions: none.
-/
namespace Go.Proofs.Ytmdledlbkdcmnaa
open Go.RowKit
theorem less_any (a b : Int) (h1 : -1000000 ≤ a) (h2 : a ≤ 1000000) (h3 : -1000000 ≤ b) (h4 : b ≤ 1000000) (w : World) : Calls Try.prog 99 #[.int .i64 a, .int .i64 b] w fun e w' => e = .returned (.agg #[.int .i64 ((a - b) / 18446744073709551616), .int .u64 ((a - b) % 18446744073709551616)]) ∧ Below w.heap.size w w' := by
  have hs := Lib.hid (fun w => wsub_ok a b (by omega) (by omega) (by omega) (by omega) (by omega) (by omega) w)
  have ha := Lib.hid (fun w => of_any a (by omega) (by omega) w)
  have hb := Lib.hid (fun w => of_any b (by omega) (by omega) w)
  generalize (a - b) / 18446744073709551616 = x at *
  generalize (a - b) % 18446744073709551616 = y at *
  generalize a / 18446744073709551616 = a1 at *
  generalize a % 18446744073709551616 = a2 at *
  generalize b / 18446744073709551616 = b1 at *
  generalize b % 18446744073709551616 = b2 at *
  go_enter Try.func99, Try.ntmps99
  go_wp2_with (first
    | (go_at_call_of 119 (a); refine (ha.out _).mono ?_; rintro e w1 ⟨rfl, k1⟩; have hR := heap_old k1 (heap_new w (.cells #[.int .i64 0, .int .u64 0] 75) rfl); have hK := Below.next1 (Below.refl w.heap.size w) (Nat.le_refl _) k1)
    | (go_at_call_of 119 (b); refine (hb.out _).mono ?_; rintro e w2 ⟨rfl, k2⟩; replace hR := heap_old k2 hR; replace hK := Below.next hK (Nat.le_refl _) k2)
    | (go_at_call 85; refine (hs.out _).mono ?_; rintro e w3 ⟨rfl, k3⟩; replace hR := heap_old k3 hR; replace hK := Below.next hK (Nat.le_refl _) k3; have r0 := cell_heap (o := 0) hR rfl; have r1 := cell_heap (o := 1) hR rfl; have z0 := frozen_heap (o := 0) hR; have z1 := frozen_heap (o := 1) hR; have hsz := hK.size; have hlt := (Array.getElem?_eq_some_iff.1 hR).1))
  have hE := heap_set (o := 1) (v := .int .u64 y) (heap_set (o := 0) (v := .int .i64 x) (heap_alloc (X := .cells #[.int .i64 x, .int .u64 y] 75) hR))
  simp only [List.setIfInBounds_toArray, List.set_cons_succ, List.set_cons_zero] at hE
  have k0 := cell_heap (o := 0) hE rfl
  have k4 := cell_heap (o := 1) hE rfl
  refine bodyPost_ret (v := .agg #[.int .i64 x, .int .u64 y]) (by simp only [results, Try.results99]; go_simp) rfl ⟨rfl, (by repeat (first | with_reducible exact Below.refl _ _ | with_reducible assumption | with_reducible refine Below.drew ?_ | with_reducible refine Below.setCell ?_ (by first | omega | (simp; omega) | simp) _ | with_reducible refine Below.alloc ?_ (by first | omega | (simp; omega) | simp) _ | with_reducible refine Below.trans ?_ (Below.mono (by with_reducible assumption) (by first | omega | (simp; omega) | simp))))⟩
theorem sum_any (a b : Int) (h1 : -1000000 ≤ a) (h2 : a ≤ 1000000) (h3 : -1000000 ≤ b) (h4 : b ≤ 1000000) (w : World) : Calls Try.prog 100 #[.int .i64 a, .int .i64 b] w fun e w' => e = .returned (.agg #[.int .i64 ((a + b) / 18446744073709551616), .int .u64 ((a + b) % 18446744073709551616)]) ∧ Below w.heap.size w w' := by
  have hs := Lib.hid (fun w => wadd_ok a b (by omega) (by omega) (by omega) (by omega) (by omega) (by omega) w)
  have ha := Lib.hid (fun w => of_any a (by omega) (by omega) w)
  have hb := Lib.hid (fun w => of_any b (by omega) (by omega) w)
  generalize (a + b) / 18446744073709551616 = x at *
  generalize (a + b) % 18446744073709551616 = y at *
  generalize a / 18446744073709551616 = a1 at *
  generalize a % 18446744073709551616 = a2 at *
  generalize b / 18446744073709551616 = b1 at *
  generalize b % 18446744073709551616 = b2 at *
  go_enter Try.func100, Try.ntmps100
  go_wp2_with (first
    | (go_at_call_of 119 (a); refine (ha.out _).mono ?_; rintro e w1 ⟨rfl, k1⟩; have hR := heap_old k1 (heap_new w (.cells #[.int .i64 0, .int .u64 0] 75) rfl); have hK := Below.next1 (Below.refl w.heap.size w) (Nat.le_refl _) k1)
    | (go_at_call_of 119 (b); refine (hb.out _).mono ?_; rintro e w2 ⟨rfl, k2⟩; replace hR := heap_old k2 hR; replace hK := Below.next hK (Nat.le_refl _) k2)
    | (go_at_call 42; refine (hs.out _).mono ?_; rintro e w3 ⟨rfl, k3⟩; replace hR := heap_old k3 hR; replace hK := Below.next hK (Nat.le_refl _) k3; have r0 := cell_heap (o := 0) hR rfl; have r1 := cell_heap (o := 1) hR rfl; have z0 := frozen_heap (o := 0) hR; have z1 := frozen_heap (o := 1) hR; have hsz := hK.size; have hlt := (Array.getElem?_eq_some_iff.1 hR).1))
  have hE := heap_set (o := 1) (v := .int .u64 y) (heap_set (o := 0) (v := .int .i64 x) (heap_alloc (X := .cells #[.int .i64 x, .int .u64 y] 75) hR))
  simp only [List.setIfInBounds_toArray, List.set_cons_succ, List.set_cons_zero] at hE
  have k0 := cell_heap (o := 0) hE rfl
  have k4 := cell_heap (o := 1) hE rfl
  refine bodyPost_ret (v := .agg #[.int .i64 x, .int .u64 y]) (by simp only [results, Try.results100]; go_simp) rfl ⟨rfl, (by repeat (first | with_reducible exact Below.refl _ _ | with_reducible assumption | with_reducible refine Below.drew ?_ | with_reducible refine Below.setCell ?_ (by first | omega | (simp; omega) | simp) _ | with_reducible refine Below.alloc ?_ (by first | omega | (simp; omega) | simp) _ | with_reducible refine Below.trans ?_ (Below.mono (by with_reducible assumption) (by first | omega | (simp; omega) | simp))))⟩
theorem madeV_ok {a b : Int} (h1 : -4611686018427387904 ≤ a) (h2 : a ≤ 4611686018427387904) (h3 : -4611686018427387904 ≤ b) (h4 : b ≤ 4611686018427387904) : madeV a b = .tuple #[.agg #[.int .i64 a, .int .i64 b], .int .i64 0] := by
  unfold madeV endB
  rw [decide_eq_true h1, decide_eq_true h2, decide_eq_true h3, decide_eq_true h4]
  rfl
theorem around_any (a b : Int) (h1 : -1000000 ≤ a) (h2 : a ≤ 1000000) (h3 : 0 ≤ b) (h4 : b ≤ 1000000) (w : World) : Calls Try.prog 52 #[.int .i64 a, .int .i64 b] w fun e w' => e = .returned (.tuple #[.agg #[.int .i64 (a - b), .int .i64 (a + b)], .int .i64 0]) ∧ Below w.heap.size w w' := by
  have hs := Lib.hid (fun w => less_any a b h1 h2 (by omega) h4 w)
  have ha := Lib.hid (fun w => sum_any a b h1 h2 (by omega) h4 w)
  have hm := Lib.hid (fun w => by have := made_any (a - b) (a + b) (by omega) (by omega) (by omega) (by omega) w; rwa [madeV_ok (by omega) (by omega) (by omega) (by omega)] at this)
  generalize (a - b) / 18446744073709551616 = x at *
  generalize (a - b) % 18446744073709551616 = y at *
  generalize (a + b) / 18446744073709551616 = x2 at *
  generalize (a + b) % 18446744073709551616 = y2 at *
  generalize a - b = lo at *
  generalize a + b = hi at *
  go_enter Try.func52, Try.ntmps52
  go_wp2_with (first
    | (go_at_call 99; refine (hs.out _).mono ?_; rintro e w1 ⟨rfl, k1⟩; have hR := heap_old k1 (heap_new w (.cells #[.int .i64 0, .int .i64 0] 34) rfl); have hK := Below.next1 (Below.refl w.heap.size w) (Nat.le_refl _) k1)
    | (go_at_call 100; refine (ha.out _).mono ?_; rintro e w2 ⟨rfl, k2⟩; replace hR := heap_old k2 hR; replace hK := Below.next hK (Nat.le_refl _) k2)
    | (go_at_call 98; refine (hm.out _).mono ?_; rintro e w3 ⟨rfl, k3⟩; replace hR := heap_old k3 hR; replace hK := Below.next hK (Nat.le_refl _) k3; have r0 := cell_heap (o := 0) hR rfl; have r1 := cell_heap (o := 1) hR rfl; have z0 := frozen_heap (o := 0) hR; have z1 := frozen_heap (o := 1) hR; have hsz := hK.size; have hlt := (Array.getElem?_eq_some_iff.1 hR).1))
  have hE := heap_set (o := 1) (v := .int .i64 hi) (heap_set (o := 0) (v := .int .i64 lo) hR)
  simp only [List.setIfInBounds_toArray, List.set_cons_succ, List.set_cons_zero] at hE
  have k0 := cell_heap (o := 0) hE rfl
  have k4 := cell_heap (o := 1) hE rfl
  refine bodyPost_ret (v := .tuple #[.agg #[.int .i64 lo, .int .i64 hi], .int .i64 0]) (by simp only [results, Try.results52]; go_simp) rfl ⟨rfl, (by repeat (first | with_reducible exact Below.refl _ _ | with_reducible assumption | with_reducible refine Below.drew ?_ | with_reducible refine Below.setCell ?_ (by first | omega | (simp; omega) | simp) _ | with_reducible refine Below.alloc ?_ (by first | omega | (simp; omega) | simp) _ | with_reducible refine Below.trans ?_ (Below.mono (by with_reducible assumption) (by first | omega | (simp; omega) | simp))))⟩
theorem sideV_ok {a b : Int} {left : Bool} (h : validB a b = true) : sideV a b left = .tuple #[.agg #[.int .i64 (sdLo a b left), .int .i64 (sdHi a b left)], .int .i64 0] := by
  unfold sideV sdLo sdHi
  rw [if_neg (by simp [h])]
  cases left <;> rfl
set_option maxRecDepth 100000 in
set_option maxHeartbeats 4000000 in
theorem across_any (s : SN) (left : Bool) (ho : okS s = true) (w : World) : Calls Try.prog 61 #[.agg #[.int .i64 s.1, .int .i64 s.2.1, .int .i64 s.2.2.1, .int .i64 s.2.2.2.1, .int .i64 s.2.2.2.2], .bool left] w fun e w' => e = .returned (.agg #[.int .i64 (plLo s left), .int .i64 (plHi s left)]) ∧ Below w.heap.size w w' := by
  obtain ⟨_, _, ⟨c1, c2⟩, _, e1, e2⟩ := okS_iff.1 ho
  have hv : validB (s.2.2.1 - s.2.2.2.2) (s.2.2.1 + s.2.2.2.2) = true := validB_mk (by omega) (by omega) (by omega)
  have ha := Lib.hid (fun w => around_any s.2.2.1 s.2.2.2.2 (by omega) (by omega) (by omega) (by omega) w)
  have hs := Lib.hid (fun w => by have := side_any (s.2.2.1 - s.2.2.2.2) (s.2.2.1 + s.2.2.2.2) left w; rwa [sideV_ok hv] at this)
  unfold plLo plHi
  generalize sdLo (s.2.2.1 - s.2.2.2.2) (s.2.2.1 + s.2.2.2.2) left = A at *
  generalize sdHi (s.2.2.1 - s.2.2.2.2) (s.2.2.1 + s.2.2.2.2) left = B at *
  generalize s.2.2.1 - s.2.2.2.2 = lo at *
  generalize s.2.2.1 + s.2.2.2.2 = hi at *
  clear hv
  go_enter Try.func61, Try.ntmps61
  go_wp2_with (first
    | (go_at_call 52; refine (ha.out _).mono ?_; rintro e w1 ⟨rfl, k1⟩; have hR := heap_old k1 (heap_new (w.alloc (.cells #[.int .i64 s.1, .int .i64 s.2.1, .int .i64 s.2.2.1, .int .i64 s.2.2.2.1, .int .i64 s.2.2.2.2] 38)) (.cells #[.int .i64 0, .int .i64 0] 34) (b := w.heap.size + 1) (by simp)); have hK := Below.next2 (Below.refl w.heap.size w) (Nat.le_refl _) k1; have hsz := hK.size; have nn : w.heap.size + 1 ≠ w1.heap.size := (by intro e; have := k1.size; simp at this; omega))
    | (go_at_call 63; refine (hs.out _).mono ?_; rintro e w2 ⟨rfl, k2⟩; have hS := heap_old k2 (heap_new w1 (.cells #[.int .i64 lo, .int .i64 hi] 34) rfl); replace hR := heap_old k2 (heap_alloc (X := .cells #[.int .i64 lo, .int .i64 hi] 34) hR); replace hK := Below.next1 hK (Nat.le_refl _) k2; have s0 := cell_heap (o := 0) hS rfl; have s1 := cell_heap (o := 1) hS rfl; have y0 := frozen_heap (o := 0) hS; have y1 := frozen_heap (o := 1) hS; have r0 := cell_heap (o := 0) hR rfl; have r1 := cell_heap (o := 1) hR rfl; have z0 := frozen_heap (o := 0) hR; have z1 := frozen_heap (o := 1) hR; have hlt := (Array.getElem?_eq_some_iff.1 hR).1; have hlt2 := (Array.getElem?_eq_some_iff.1 hS).1))
  have hE := heap_set (o := 1) (v := .int .i64 B) (heap_set (o := 0) (v := .int .i64 A) (heap_set_other (g := w1.heap.size) (o := 1) (v := .int .i64 B) (heap_set_other (g := w1.heap.size) (o := 0) (v := .int .i64 A) hR nn) nn))
  simp only [List.setIfInBounds_toArray, List.set_cons_succ, List.set_cons_zero] at hE
  have k0 := cell_heap (o := 0) hE rfl
  have k4 := cell_heap (o := 1) hE rfl
  refine bodyPost_ret (v := .agg #[.int .i64 A, .int .i64 B]) (by simp only [results, Try.results61]; go_simp) rfl ⟨rfl, (by repeat (first | with_reducible exact Below.refl _ _ | with_reducible assumption | with_reducible refine Below.drew ?_ | with_reducible refine Below.setCell ?_ (by first | omega | (simp; omega) | simp) _ | with_reducible refine Below.alloc ?_ (by first | omega | (simp; omega) | simp) _ | with_reducible refine Below.trans ?_ (Below.mono (by with_reducible assumption) (by first | omega | (simp; omega) | simp))))⟩
end Go.Proofs.Ytmdledlbkdcmnaa

/-
  Contracts of lbw.Check and lbw.Decide.
  Conditions: none.
-/
namespace Go.Proofs.Ytmdledlbkdcmnaa
open Go.RowKit
set_option linter.unusedSimpArgs false
theorem lcheck_any (v : Value) (l : List SN) (left shot bat void : Bool) (w : World) (h : Seens w v l) : Calls Try.prog 49 #[.agg #[v, .bool left, .bool shot, .bool bat, .bool void]] w fun e w' => e = .returned (.int .i64 (behE l)) ∧ Below w.heap.size w w' := by
  have hc := Lib.hid (fun w' (h : Seens w' v l) => check_any v l w' h)
  have hb := Lib.hid (fun w' (h : Seens w' v l) => behind_any v l w' h)
  have hE : Hid (behE l = if chkE l ≠ 0 then chkE l else if (bhdL l).length < 2 then 1 else 0) := Lib.hid rfl
  by_cases h0 : chkE l = 0
  · rw [h0] at hc hE
    clear h0
    go_enter Try.func49, Try.ntmps49
    go_wp2_with (first
      | (go_at_call 66; refine (hc.out _ (h.below (by repeat (first | with_reducible exact Below.refl _ _ | with_reducible assumption | with_reducible refine Below.drew ?_ | with_reducible refine Below.setCell ?_ (by first | omega | (simp; omega) | simp) _ | with_reducible refine Below.alloc ?_ (by first | omega | (simp; omega) | simp) _ | with_reducible refine Below.trans ?_ (Below.mono (by with_reducible assumption) (by first | omega | (simp; omega) | simp)))))).mono ?_; rintro e w1 ⟨⟨k0, rfl⟩, hb1⟩; have hK := Below.next1 (Below.refl w.heap.size w) (Nat.le_refl _) hb1; have hB := heap_old hb1 (heap_new w (.cells #[v, .bool left, .bool shot, .bool bat, .bool void] 43) rfl); have b0 := cell_heap (o := 0) hB rfl)
      | (go_at_call 76; refine (hb.out _ (h.below hK)).mono ?_; rintro e w2 ⟨u, rfl, ⟨pa, b, o, cap, rfl, g1, g2, g3, g4⟩, hb2⟩; have hcap : cap ≤ 9223372036854775807 := (by unfold maxLen at g3; omega); have hl2 := bhd_len l; replace hK := Below.next hK (Nat.le_refl _) hb2; clear g4))
    all_goals
      go_ret
      refine ⟨ret_int ?_, hK⟩
      rw [hE.out, if_neg (fun h => h rfl)]
      first | rw [if_pos (by omega)] | rw [if_neg (by omega)]
  · have hn : (chkE l != 0) = true := by simpa using h0
    rw [if_pos h0] at hE
    clear h0
    generalize chkE l = E at *
    rw [hE.out]
    go_enter Try.func49, Try.ntmps49
    go_wp2_with (go_at_call 66; refine (hc.out _ (h.below (by repeat (first | with_reducible exact Below.refl _ _ | with_reducible assumption | with_reducible refine Below.drew ?_ | with_reducible refine Below.setCell ?_ (by first | omega | (simp; omega) | simp) _ | with_reducible refine Below.alloc ?_ (by first | omega | (simp; omega) | simp) _ | with_reducible refine Below.trans ?_ (Below.mono (by with_reducible assumption) (by first | omega | (simp; omega) | simp)))))).mono ?_; rintro e w1 ⟨⟨k0, rfl⟩, hb1⟩; have hK := Below.next1 (Below.refl w.heap.size w) (Nat.le_refl _) hb1)
    go_ret
    exact ⟨rfl, hK⟩
set_option maxRecDepth 100000 in
set_option maxHeartbeats 8000000 in
theorem decide_bad (v : Value) (l : List SN) (left shot bat void : Bool) (w : World) (h : Seens w v l) (hb : behE l ≠ 0) : Calls Try.prog 23 #[.agg #[v, .bool left, .bool shot, .bool bat, .bool void]] w fun e w' => e = .returned (decV l left shot bat void) ∧ Below w.heap.size w w' := by
  have e1 : decV l left shot bat void = .tuple #[.agg #[.int .u8 0, .int .u8 0, .int .u8 0, .int .u8 0], .int .i64 (behE l)] := by unfold decV; rw [if_neg hb]
  rw [e1]
  have hn : (behE l != 0) = true := by simpa using hb
  have hck := Lib.hid (fun w' (h : Seens w' v l) => lcheck_any v l left shot bat void w' h)
  clear hb e1
  generalize behE l = E at *
  go_enter Try.func23, Try.ntmps23
  go_wp2_with ((go_at_call 49; refine (hck.out _ (h.below (by repeat (first | with_reducible exact Below.refl _ _ | with_reducible assumption | with_reducible refine Below.drew ?_ | with_reducible refine Below.setCell ?_ (by first | omega | (simp; omega) | simp) _ | with_reducible refine Below.alloc ?_ (by first | omega | (simp; omega) | simp) _ | with_reducible refine Below.trans ?_ (Below.mono (by with_reducible assumption) (by first | omega | (simp; omega) | simp)))))).mono ?_; rintro e w1 ⟨rfl, hb1⟩; have hB := heap_old hb1 (heap_alloc (X := (.cells #[.int .u8 0, .int .u8 0, .int .u8 0, .int .u8 0] 47)) (heap_new w (.cells #[v, .bool left, .bool shot, .bool bat, .bool void] 43) rfl)); have hR := heap_old hb1 (heap_new (w.alloc (.cells #[v, .bool left, .bool shot, .bool bat, .bool void] 43)) (.cells #[.int .u8 0, .int .u8 0, .int .u8 0, .int .u8 0] 47) (b := w.heap.size + 1) (by simp)); have hK := Below.next2 (Below.refl w.heap.size w) (Nat.le_refl _) hb1; clear hb1; (have b0 := cell_heap (o := 0) hB rfl; have b1 := cell_heap (o := 1) hB rfl; have b2 := cell_heap (o := 2) hB rfl; have b3 := cell_heap (o := 3) hB rfl; have b4 := cell_heap (o := 4) hB rfl); (have r0 := cell_heap (o := 0) hR rfl; have r1 := cell_heap (o := 1) hR rfl; have r2 := cell_heap (o := 2) hR rfl; have r3 := cell_heap (o := 3) hR rfl; have z0 := frozen_heap (o := 0) hR; have z1 := frozen_heap (o := 1) hR; have z2 := frozen_heap (o := 2) hR; have z3 := frozen_heap (o := 3) hR)))
  have hE := heap_set (o := 3) (v := .int .u8 0) (heap_set (o := 2) (v := .int .u8 0) (heap_set (o := 1) (v := .int .u8 0) (heap_set (o := 0) (v := .int .u8 0) hR)))
  simp only [List.setIfInBounds_toArray, List.set_cons_succ, List.set_cons_zero] at hE
  have k0 := cell_heap (o := 0) hE rfl
  have k1 := cell_heap (o := 1) hE rfl
  have k2 := cell_heap (o := 2) hE rfl
  have k3 := cell_heap (o := 3) hE rfl
  refine bodyPost_ret (v := .tuple #[.agg #[.int .u8 0, .int .u8 0, .int .u8 0, .int .u8 0], .int .i64 E]) (by simp only [results, Try.results23]; go_simp) rfl ⟨rfl, (by repeat (first | with_reducible exact Below.refl _ _ | with_reducible assumption | with_reducible refine Below.drew ?_ | with_reducible refine Below.setCell ?_ (by first | omega | (simp; omega) | simp) _ | with_reducible refine Below.alloc ?_ (by first | omega | (simp; omega) | simp) _ | with_reducible refine Below.trans ?_ (Below.mono (by with_reducible assumption) (by first | omega | (simp; omega) | simp))))⟩
set_option maxRecDepth 100000 in
set_option maxHeartbeats 8000000 in
theorem decide_nm (v : Value) (l : List SN) (left shot bat void : Bool) (w : World) (h : Seens w v l) (hb : behE l = 0) (hq : bncK l = 0) (hc : crsE l ≠ 0) : Calls Try.prog 23 #[.agg #[v, .bool left, .bool shot, .bool bat, .bool void]] w fun e w' => e = .returned (decV l left shot bat void) ∧ Below w.heap.size w w' := by
  have e1 : decV l left shot bat void = .tuple #[.agg #[.int .u8 (decCall l left shot bat void), .int .u8 (decLeg l left), .int .u8 (decLine l left shot), .int .u8 (decWkt l left)], .int .i64 0] := by unfold decV; rw [if_pos hb]
  rw [e1]
  have hck := Lib.hid (fun w' (h : Seens w' v l) => lcheck_any v l left shot bat void w' h)
  rw [hb] at hck
  have hch := (behE_len hb).1
  have hn2 := beh_pos hb
  have hl64 := chkE_len hch
  have hbo := Lib.hid (fun w' (h : Seens w' v l) => by have := bounce_ok v l w' h; rwa [show bncQ l = false from by unfold bncQ; simp [hq]] at this)
  have dL : decLeg l left = 2 := by unfold decLeg; rw [if_pos hq]
  have hr : l[l.length - 1]? = some (atS l (l.length - 1)) := by unfold atS; rw [List.getElem?_eq_getElem (show l.length - 1 < l.length by omega)]
  have hro := chkE_ok hch _ (atS_mem (show l.length - 1 < l.length by omega))
  have hac2 := Lib.hid (fun w => across_any (atS l (l.length - 1)) left hro w)
  have himp := Lib.hid (fun w => impact_any (plLo (atS l (l.length - 1)) left) (plHi (atS l (l.length - 1)) left) shot w)
  have dI : decLine l left shot = impactV (plLo (atS l (l.length - 1)) left) (plHi (atS l (l.length - 1)) left) shot := rfl
  rw [← dI] at himp
  have hcr := Lib.hid (fun w' (h : Seens w' v l) => by have := cross_any v l w' h; unfold crsV at this; rwa [if_neg hc] at this)
  have dW : decWkt l left = 3 := by unfold decWkt; rw [if_neg hc]
  have hcn : (crsE l == 0) = false := by simpa using hc
  have hru := Lib.hid (fun w => rule_any (decLeg l left) (decLine l left shot) (decWkt l left) bat void w)
  have dC : decCall l left shot bat void = ruleV (decLeg l left) (decLine l left shot) (decWkt l left) bat void := rfl
  rw [← dC] at hru
  rw [dL] at hru ⊢
  rw [dW] at hru ⊢
  clear dC dI dW dL e1
  generalize decCall l left shot bat void = CALL at *
  generalize decLine l left shot = LINE at *
  generalize plLo (atS l (l.length - 1)) left = p3 at *
  generalize plHi (atS l (l.length - 1)) left = p4 at *
  generalize atS l (l.length - 1) = r at *
  generalize crsE l = CE at *
  rw [hq] at hbo
  obtain ⟨n, hn⟩ : ∃ n, l.length = n + 1 := ⟨l.length - 1, by omega⟩
  have hn64 : n ≤ 63 := by omega
  have hR0 := Lib.hid hr
  clear hr hb hq hc hch hn2 hl64
  have h0 := h
  obtain ⟨pa, b, o, cap, rfl, g1, g2, g3, g4⟩ := h0
  have hcap : cap ≤ 9223372036854775807 := by unfold maxLen at g3; omega
  obtain rfl := g1 (by omega)
  have hrr := hR0.out
  rw [hn, Nat.add_sub_cancel] at hrr
  have hC0 := Lib.hid (g4 n r hrr)
  rw [hn] at g2 h hck hbo hcr ⊢
  clear g4 hrr hR0 g1
  go_enter Try.func23, Try.ntmps23
  go_wp2_with (first
    | (go_at_call 49; refine (hck.out _ (h.below (by repeat (first | with_reducible exact Below.refl _ _ | with_reducible assumption | with_reducible refine Below.drew ?_ | with_reducible refine Below.setCell ?_ (by first | omega | (simp; omega) | simp) _ | with_reducible refine Below.alloc ?_ (by first | omega | (simp; omega) | simp) _ | with_reducible refine Below.trans ?_ (Below.mono (by with_reducible assumption) (by first | omega | (simp; omega) | simp)))))).mono ?_; rintro e w1 ⟨rfl, hb1⟩; have hB := heap_old hb1 (heap_alloc (X := (.cells #[.int .u8 0, .int .u8 0, .int .u8 0, .int .u8 0] 47)) (heap_new w (.cells #[.slice (some ⟨b, o, none⟩) (n + 1) cap, .bool left, .bool shot, .bool bat, .bool void] 43) rfl)); have hR := heap_old hb1 (heap_new (w.alloc (.cells #[.slice (some ⟨b, o, none⟩) (n + 1) cap, .bool left, .bool shot, .bool bat, .bool void] 43)) (.cells #[.int .u8 0, .int .u8 0, .int .u8 0, .int .u8 0] 47) (b := w.heap.size + 1) (by simp)); have hK := Below.next2 (Below.refl w.heap.size w) (Nat.le_refl _) hb1; clear hb1; (have b0 := cell_heap (o := 0) hB rfl; have b1 := cell_heap (o := 1) hB rfl; have b2 := cell_heap (o := 2) hB rfl; have b3 := cell_heap (o := 3) hB rfl; have b4 := cell_heap (o := 4) hB rfl); (have r0 := cell_heap (o := 0) hR rfl; have r1 := cell_heap (o := 1) hR rfl; have r2 := cell_heap (o := 2) hR rfl; have r3 := cell_heap (o := 3) hR rfl; have z0 := frozen_heap (o := 0) hR; have z1 := frozen_heap (o := 1) hR; have z2 := frozen_heap (o := 2) hR; have z3 := frozen_heap (o := 3) hR))
    | (go_at_call 25; have hwv := (Array.getElem?_eq_some_iff.1 hR).1; have hV := heap_new w1 (.cells #[.int .u8 0, .int .u8 2, .int .u8 0, .int .u8 3] 47) rfl; replace hB := heap_alloc (X := (.cells #[.int .u8 0, .int .u8 2, .int .u8 0, .int .u8 3] 47)) hB; replace hR := heap_alloc (X := (.cells #[.int .u8 0, .int .u8 2, .int .u8 0, .int .u8 3] 47)) hR; replace hK := hK.alloc hK.size (.cells #[.int .u8 0, .int .u8 2, .int .u8 0, .int .u8 3] 47); (have q0 := cell_heap (o := 0) hV rfl; have q1 := cell_heap (o := 1) hV rfl; have q2 := cell_heap (o := 2) hV rfl; have q3 := cell_heap (o := 3) hV rfl; have y0 := frozen_heap (o := 0) hV; have y1 := frozen_heap (o := 1) hV; have y2 := frozen_heap (o := 2) hV; have y3 := frozen_heap (o := 3) hV); refine (hbo.out _ (h.below hK)).mono ?_; rintro e w2 ⟨rfl, hb2⟩; replace hB := heap_old hb2 hB; replace hR := heap_old hb2 hR; replace hV := heap_old hb2 hV; replace hK := Below.next hK (Nat.le_refl _) hb2; clear hb2; (clear b0 b1 b2 b3 b4); (clear r0 r1 r2 r3 z0 z1 z2 z3); (clear q0 q1 q2 q3 y0 y1 y2 y3); (have b0 := cell_heap (o := 0) hB rfl; have b1 := cell_heap (o := 1) hB rfl; have b2 := cell_heap (o := 2) hB rfl; have b3 := cell_heap (o := 3) hB rfl; have b4 := cell_heap (o := 4) hB rfl); (have r0 := cell_heap (o := 0) hR rfl; have r1 := cell_heap (o := 1) hR rfl; have r2 := cell_heap (o := 2) hR rfl; have r3 := cell_heap (o := 3) hR rfl; have z0 := frozen_heap (o := 0) hR; have z1 := frozen_heap (o := 1) hR; have z2 := frozen_heap (o := 2) hR; have z3 := frozen_heap (o := 3) hR); (have q0 := cell_heap (o := 0) hV rfl; have q1 := cell_heap (o := 1) hV rfl; have q2 := cell_heap (o := 2) hV rfl; have q3 := cell_heap (o := 3) hV rfl; have y0 := frozen_heap (o := 0) hV; have y1 := frozen_heap (o := 1) hV; have y2 := frozen_heap (o := 2) hV; have y3 := frozen_heap (o := 3) hV)))
  have nVB : w1.heap.size ≠ w.heap.size := by omega
  have nVR : w1.heap.size ≠ w.heap.size + 1 := by omega
  have nBV : w.heap.size ≠ w1.heap.size := by omega
  have nRV : w.heap.size + 1 ≠ w1.heap.size := by omega
  have hle : w.heap.size ≤ w1.heap.size := by omega
  (clear b0 b1 b2 b3 b4)
  apply region_gen 14 [] [0, 1, 2, 3, 4, 5, 6, 7, 8, 9, 10, 11, 12, 13] [14, 15]; (case hm => kernel_rfl); (case hS => rfl); (case hF => kernel_rfl); (case hB => kernel_rfl); (case hQ => exact fun _ _ _ _ _ h => h); (case f => (exact rfl)); (case hz => exact rfl); (case h => (intro LQ hLQ W1 hW1; have hK1 := Below.next hK (Nat.le_refl _) hW1; have hB1 := heap_old hW1 hB; obtain ⟨d0, d1, d2, d3, d4⟩ := SeenAt.below hC0.out hK1; have b0 := cell_heap (o := 0) hB1 rfl; have b1 := cell_heap (o := 1) hB1 rfl; have b2 := cell_heap (o := 2) hB1 rfl; simp only [pickO, List.drop_succ_cons, List.drop_zero, List.take_succ_cons, List.take_zero, List.cons_append, List.nil_append, List.append_nil, Act.put, List.setIfInBounds_toArray, List.set_cons_succ, List.set_cons_zero]; have hl := @Later.cell; (repeat (go_big_quiet_step (first | (go_at_call 61; exact Calls.later (hac2.out _)) | (go_at_call 62; exact Calls.later (himp.out _))))); exact wpQuiet_nil hLQ)); (intro W2 hW2; simp only [pickO, List.drop_succ_cons, List.drop_zero, List.take_succ_cons, List.take_zero, List.cons_append, List.nil_append, List.append_nil, Act.put, List.setIfInBounds_toArray, List.set_cons_succ, List.set_cons_zero])
  replace hB := heap_old hW2 hB
  replace hR := heap_old hW2 hR
  replace hV := heap_old hW2 hV
  replace hK := Below.next hK (Nat.le_refl _) hW2
  (clear r0 r1 r2 r3 z0 z1 z2 z3)
  (clear q0 q1 q2 q3 y0 y1 y2 y3)
  (have b0 := cell_heap (o := 0) hB rfl; have b1 := cell_heap (o := 1) hB rfl; have b2 := cell_heap (o := 2) hB rfl; have b3 := cell_heap (o := 3) hB rfl; have b4 := cell_heap (o := 4) hB rfl)
  (have r0 := cell_heap (o := 0) hR rfl; have r1 := cell_heap (o := 1) hR rfl; have r2 := cell_heap (o := 2) hR rfl; have r3 := cell_heap (o := 3) hR rfl; have z0 := frozen_heap (o := 0) hR; have z1 := frozen_heap (o := 1) hR; have z2 := frozen_heap (o := 2) hR; have z3 := frozen_heap (o := 3) hR)
  (have q0 := cell_heap (o := 0) hV rfl; have q1 := cell_heap (o := 1) hV rfl; have q2 := cell_heap (o := 2) hV rfl; have q3 := cell_heap (o := 3) hV rfl; have y0 := frozen_heap (o := 0) hV; have y1 := frozen_heap (o := 1) hV; have y2 := frozen_heap (o := 2) hV; have y3 := frozen_heap (o := 3) hV)
  go_wp2_with (first
    | (go_at_call 38; replace hB := heap_set_other (g := w1.heap.size) (o := 2) (v := .int .u8 LINE) hB nBV; replace hR := heap_set_other (g := w1.heap.size) (o := 2) (v := .int .u8 LINE) hR nRV; replace hV := heap_set (o := 2) (v := .int .u8 LINE) hV; simp only [List.setIfInBounds_toArray, List.set_cons_succ, List.set_cons_zero] at hV; replace hK := Below.setCell hK hle (.int .u8 LINE) (p := ⟨w1.heap.size, 2, none⟩); refine (hcr.out _ (h.below hK)).mono ?_; rintro e w5 ⟨rfl, hb5⟩; replace hB := heap_old hb5 hB; replace hR := heap_old hb5 hR; replace hV := heap_old hb5 hV; replace hK := Below.next hK (Nat.le_refl _) hb5; clear hb5; (clear b0 b1 b2 b3 b4); (clear r0 r1 r2 r3 z0 z1 z2 z3); (clear q0 q1 q2 q3 y0 y1 y2 y3); (have b0 := cell_heap (o := 0) hB rfl; have b1 := cell_heap (o := 1) hB rfl; have b2 := cell_heap (o := 2) hB rfl; have b3 := cell_heap (o := 3) hB rfl; have b4 := cell_heap (o := 4) hB rfl); (have r0 := cell_heap (o := 0) hR rfl; have r1 := cell_heap (o := 1) hR rfl; have r2 := cell_heap (o := 2) hR rfl; have r3 := cell_heap (o := 3) hR rfl; have z0 := frozen_heap (o := 0) hR; have z1 := frozen_heap (o := 1) hR; have z2 := frozen_heap (o := 2) hR; have z3 := frozen_heap (o := 3) hR); (have q0 := cell_heap (o := 0) hV rfl; have q1 := cell_heap (o := 1) hV rfl; have q2 := cell_heap (o := 2) hV rfl; have q3 := cell_heap (o := 3) hV rfl; have y0 := frozen_heap (o := 0) hV; have y1 := frozen_heap (o := 1) hV; have y2 := frozen_heap (o := 2) hV; have y3 := frozen_heap (o := 3) hV); have hC := heap_new w5 (.cells #[.int .i64 0, .int .i64 0, .int .i64 0, .int .i64 0, .int .i64 0, .int .i64 0] 70) rfl; replace hB := heap_alloc (X := (.cells #[.int .i64 0, .int .i64 0, .int .i64 0, .int .i64 0, .int .i64 0, .int .i64 0] 70)) hB; replace hR := heap_alloc (X := (.cells #[.int .i64 0, .int .i64 0, .int .i64 0, .int .i64 0, .int .i64 0, .int .i64 0] 70)) hR; replace hV := heap_alloc (X := (.cells #[.int .i64 0, .int .i64 0, .int .i64 0, .int .i64 0, .int .i64 0, .int .i64 0] 70)) hV; replace hK := hK.alloc hK.size (.cells #[.int .i64 0, .int .i64 0, .int .i64 0, .int .i64 0, .int .i64 0, .int .i64 0] 70); (clear b0 b1 b2 b3 b4); (clear r0 r1 r2 r3 z0 z1 z2 z3); (clear q0 q1 q2 q3 y0 y1 y2 y3); (have b0 := cell_heap (o := 0) hB rfl; have b1 := cell_heap (o := 1) hB rfl; have b2 := cell_heap (o := 2) hB rfl; have b3 := cell_heap (o := 3) hB rfl; have b4 := cell_heap (o := 4) hB rfl); (have r0 := cell_heap (o := 0) hR rfl; have r1 := cell_heap (o := 1) hR rfl; have r2 := cell_heap (o := 2) hR rfl; have r3 := cell_heap (o := 3) hR rfl; have z0 := frozen_heap (o := 0) hR; have z1 := frozen_heap (o := 1) hR; have z2 := frozen_heap (o := 2) hR; have z3 := frozen_heap (o := 3) hR); (have q0 := cell_heap (o := 0) hV rfl; have q1 := cell_heap (o := 1) hV rfl; have q2 := cell_heap (o := 2) hV rfl; have q3 := cell_heap (o := 3) hV rfl; have y0 := frozen_heap (o := 0) hV; have y1 := frozen_heap (o := 1) hV; have y2 := frozen_heap (o := 2) hV; have y3 := frozen_heap (o := 3) hV); (have c0 := cell_heap (o := 0) hC rfl; have c1 := cell_heap (o := 1) hC rfl; have c2 := cell_heap (o := 2) hC rfl; have c3 := cell_heap (o := 3) hC rfl; have c4 := cell_heap (o := 4) hC rfl; have c5 := cell_heap (o := 5) hC rfl); have hlt5 := (Array.getElem?_eq_some_iff.1 hC).1)
    | (go_at_call 65; refine (hru.out _).mono ?_; rintro e w9 ⟨rfl, rfl⟩))
  replace hR := heap_set_other (g := w1.heap.size) (o := 0) (v := .int .u8 CALL) hR nRV
  replace hV := heap_set (o := 0) (v := .int .u8 CALL) hV
  simp only [List.setIfInBounds_toArray, List.set_cons_succ, List.set_cons_zero] at hV
  replace hK := Below.setCell hK hle (.int .u8 CALL) (p := ⟨w1.heap.size, 0, none⟩)
  have hE := heap_set (o := 3) (v := .int .u8 3) (heap_set (o := 2) (v := .int .u8 LINE) (heap_set (o := 1) (v := .int .u8 2) (heap_set (o := 0) (v := .int .u8 CALL) hR)))
  simp only [List.setIfInBounds_toArray, List.set_cons_succ, List.set_cons_zero] at hE
  have k0 := cell_heap (o := 0) hE rfl
  have k1 := cell_heap (o := 1) hE rfl
  have k2 := cell_heap (o := 2) hE rfl
  have k3 := cell_heap (o := 3) hE rfl
  refine bodyPost_ret (v := .tuple #[.agg #[.int .u8 CALL, .int .u8 2, .int .u8 LINE, .int .u8 3], .int .i64 0]) (by simp only [results, Try.results23]; go_simp) rfl ⟨rfl, ?_⟩
  exact Below.setCell (Below.setCell (Below.setCell (Below.setCell hK (Nat.le_succ _) _) (Nat.le_succ _) _) (Nat.le_succ _) _) (Nat.le_succ _) _
set_option maxRecDepth 100000 in
set_option maxHeartbeats 8000000 in
theorem decide_bm (v : Value) (l : List SN) (left shot bat void : Bool) (w : World) (h : Seens w v l) (hb : behE l = 0) (hq : bncK l ≠ 0) (hc : crsE l ≠ 0) : Calls Try.prog 23 #[.agg #[v, .bool left, .bool shot, .bool bat, .bool void]] w fun e w' => e = .returned (decV l left shot bat void) ∧ Below w.heap.size w w' := by
  have e1 : decV l left shot bat void = .tuple #[.agg #[.int .u8 (decCall l left shot bat void), .int .u8 (decLeg l left), .int .u8 (decLine l left shot), .int .u8 (decWkt l left)], .int .i64 0] := by unfold decV; rw [if_pos hb]
  rw [e1]
  have hck := Lib.hid (fun w' (h : Seens w' v l) => lcheck_any v l left shot bat void w' h)
  rw [hb] at hck
  have hch := (behE_len hb).1
  have hn2 := beh_pos hb
  have hl64 := chkE_len hch
  have hbo := Lib.hid (fun w' (h : Seens w' v l) => by have := bounce_ok v l w' h; rwa [show bncQ l = true from by unfold bncQ; simp [hq]] at this)
  have hk := bncK_lt' (l := l) (by omega)
  have hs : l[bncK l]? = some (atS l (bncK l)) := by unfold atS; rw [List.getElem?_eq_getElem hk]
  have hso := chkE_ok hch _ (atS_mem hk)
  have hac1 := Lib.hid (fun w => across_any (atS l (bncK l)) left hso w)
  have hleg := Lib.hid (fun w => leg_any (plLo (atS l (bncK l)) left) (plHi (atS l (bncK l)) left) w)
  have dL : decLeg l left = ans (plLo (atS l (bncK l)) left) (plHi (atS l (bncK l)) left) (-4611686018427387904) (-1144) := by unfold decLeg; rw [if_neg hq]
  rw [← dL] at hleg
  have hr : l[l.length - 1]? = some (atS l (l.length - 1)) := by unfold atS; rw [List.getElem?_eq_getElem (show l.length - 1 < l.length by omega)]
  have hro := chkE_ok hch _ (atS_mem (show l.length - 1 < l.length by omega))
  have hac2 := Lib.hid (fun w => across_any (atS l (l.length - 1)) left hro w)
  have himp := Lib.hid (fun w => impact_any (plLo (atS l (l.length - 1)) left) (plHi (atS l (l.length - 1)) left) shot w)
  have dI : decLine l left shot = impactV (plLo (atS l (l.length - 1)) left) (plHi (atS l (l.length - 1)) left) shot := rfl
  rw [← dI] at himp
  have hcr := Lib.hid (fun w' (h : Seens w' v l) => by have := cross_any v l w' h; unfold crsV at this; rwa [if_neg hc] at this)
  have dW : decWkt l left = 3 := by unfold decWkt; rw [if_neg hc]
  have hcn : (crsE l == 0) = false := by simpa using hc
  have hru := Lib.hid (fun w => rule_any (decLeg l left) (decLine l left shot) (decWkt l left) bat void w)
  have dC : decCall l left shot bat void = ruleV (decLeg l left) (decLine l left shot) (decWkt l left) bat void := rfl
  rw [← dC] at hru
  rw [dW] at hru ⊢
  clear dC dI dW dL e1
  generalize decCall l left shot bat void = CALL at *
  generalize decLine l left shot = LINE at *
  generalize decLeg l left = LEG at *
  generalize plLo (atS l (bncK l)) left = p1 at *
  generalize plHi (atS l (bncK l)) left = p2 at *
  generalize atS l (bncK l) = s at *
  generalize plLo (atS l (l.length - 1)) left = p3 at *
  generalize plHi (atS l (l.length - 1)) left = p4 at *
  generalize atS l (l.length - 1) = r at *
  generalize crsE l = CE at *
  generalize bncK l = kb at *
  obtain ⟨n, hn⟩ : ∃ n, l.length = n + 1 := ⟨l.length - 1, by omega⟩
  have hn64 : n ≤ 63 := by omega
  have hR0 := Lib.hid hr
  have hS0 := Lib.hid hs
  have hkn : kb < n + 1 := by omega
  clear hs
  clear hr hb hq hc hch hn2 hl64
  have h0 := h
  obtain ⟨pa, b, o, cap, rfl, g1, g2, g3, g4⟩ := h0
  have hcap : cap ≤ 9223372036854775807 := by unfold maxLen at g3; omega
  obtain rfl := g1 (by omega)
  have hrr := hR0.out
  rw [hn, Nat.add_sub_cancel] at hrr
  have hC0 := Lib.hid (g4 n r hrr)
  have hD0 := Lib.hid (g4 kb s hS0.out)
  rw [hn] at g2 h hck hbo hcr ⊢
  clear g4 hrr hR0 g1 hS0
  go_enter Try.func23, Try.ntmps23
  go_wp2_with (first
    | (go_at_call 49; refine (hck.out _ (h.below (by repeat (first | with_reducible exact Below.refl _ _ | with_reducible assumption | with_reducible refine Below.drew ?_ | with_reducible refine Below.setCell ?_ (by first | omega | (simp; omega) | simp) _ | with_reducible refine Below.alloc ?_ (by first | omega | (simp; omega) | simp) _ | with_reducible refine Below.trans ?_ (Below.mono (by with_reducible assumption) (by first | omega | (simp; omega) | simp)))))).mono ?_; rintro e w1 ⟨rfl, hb1⟩; have hB := heap_old hb1 (heap_alloc (X := (.cells #[.int .u8 0, .int .u8 0, .int .u8 0, .int .u8 0] 47)) (heap_new w (.cells #[.slice (some ⟨b, o, none⟩) (n + 1) cap, .bool left, .bool shot, .bool bat, .bool void] 43) rfl)); have hR := heap_old hb1 (heap_new (w.alloc (.cells #[.slice (some ⟨b, o, none⟩) (n + 1) cap, .bool left, .bool shot, .bool bat, .bool void] 43)) (.cells #[.int .u8 0, .int .u8 0, .int .u8 0, .int .u8 0] 47) (b := w.heap.size + 1) (by simp)); have hK := Below.next2 (Below.refl w.heap.size w) (Nat.le_refl _) hb1; clear hb1; (have b0 := cell_heap (o := 0) hB rfl; have b1 := cell_heap (o := 1) hB rfl; have b2 := cell_heap (o := 2) hB rfl; have b3 := cell_heap (o := 3) hB rfl; have b4 := cell_heap (o := 4) hB rfl); (have r0 := cell_heap (o := 0) hR rfl; have r1 := cell_heap (o := 1) hR rfl; have r2 := cell_heap (o := 2) hR rfl; have r3 := cell_heap (o := 3) hR rfl; have z0 := frozen_heap (o := 0) hR; have z1 := frozen_heap (o := 1) hR; have z2 := frozen_heap (o := 2) hR; have z3 := frozen_heap (o := 3) hR))
    | (go_at_call 25; have hwv := (Array.getElem?_eq_some_iff.1 hR).1; have hV := heap_new w1 (.cells #[.int .u8 0, .int .u8 2, .int .u8 0, .int .u8 3] 47) rfl; replace hB := heap_alloc (X := (.cells #[.int .u8 0, .int .u8 2, .int .u8 0, .int .u8 3] 47)) hB; replace hR := heap_alloc (X := (.cells #[.int .u8 0, .int .u8 2, .int .u8 0, .int .u8 3] 47)) hR; replace hK := hK.alloc hK.size (.cells #[.int .u8 0, .int .u8 2, .int .u8 0, .int .u8 3] 47); (have q0 := cell_heap (o := 0) hV rfl; have q1 := cell_heap (o := 1) hV rfl; have q2 := cell_heap (o := 2) hV rfl; have q3 := cell_heap (o := 3) hV rfl; have y0 := frozen_heap (o := 0) hV; have y1 := frozen_heap (o := 1) hV; have y2 := frozen_heap (o := 2) hV; have y3 := frozen_heap (o := 3) hV); refine (hbo.out _ (h.below hK)).mono ?_; rintro e w2 ⟨rfl, hb2⟩; replace hB := heap_old hb2 hB; replace hR := heap_old hb2 hR; replace hV := heap_old hb2 hV; replace hK := Below.next hK (Nat.le_refl _) hb2; clear hb2; (clear b0 b1 b2 b3 b4); (clear r0 r1 r2 r3 z0 z1 z2 z3); (clear q0 q1 q2 q3 y0 y1 y2 y3); (have b0 := cell_heap (o := 0) hB rfl; have b1 := cell_heap (o := 1) hB rfl; have b2 := cell_heap (o := 2) hB rfl; have b3 := cell_heap (o := 3) hB rfl; have b4 := cell_heap (o := 4) hB rfl); (have r0 := cell_heap (o := 0) hR rfl; have r1 := cell_heap (o := 1) hR rfl; have r2 := cell_heap (o := 2) hR rfl; have r3 := cell_heap (o := 3) hR rfl; have z0 := frozen_heap (o := 0) hR; have z1 := frozen_heap (o := 1) hR; have z2 := frozen_heap (o := 2) hR; have z3 := frozen_heap (o := 3) hR); (have q0 := cell_heap (o := 0) hV rfl; have q1 := cell_heap (o := 1) hV rfl; have q2 := cell_heap (o := 2) hV rfl; have q3 := cell_heap (o := 3) hV rfl; have y0 := frozen_heap (o := 0) hV; have y1 := frozen_heap (o := 1) hV; have y2 := frozen_heap (o := 2) hV; have y3 := frozen_heap (o := 3) hV)))
  have nVB : w1.heap.size ≠ w.heap.size := by omega
  have nVR : w1.heap.size ≠ w.heap.size + 1 := by omega
  have nBV : w.heap.size ≠ w1.heap.size := by omega
  have nRV : w.heap.size + 1 ≠ w1.heap.size := by omega
  have hle : w.heap.size ≤ w1.heap.size := by omega
  (clear b0 b1 b2 b3 b4)
  apply region_gen 9 [] [0, 1, 2, 3, 4, 5, 6, 7, 8] [9, 10]; (case hm => kernel_rfl); (case hS => rfl); (case hF => kernel_rfl); (case hB => kernel_rfl); (case hQ => exact fun _ _ _ _ _ h => h); (case f => (exact rfl)); (case hz => exact rfl); (case h => (intro LQ hLQ W1 hW1; have hK1 := Below.next hK (Nat.le_refl _) hW1; have hB1 := heap_old hW1 hB; obtain ⟨d0, d1, d2, d3, d4⟩ := SeenAt.below hD0.out hK1; have b0 := cell_heap (o := 0) hB1 rfl; have b1 := cell_heap (o := 1) hB1 rfl; have b2 := cell_heap (o := 2) hB1 rfl; simp only [pickO, List.drop_succ_cons, List.drop_zero, List.take_succ_cons, List.take_zero, List.cons_append, List.nil_append, List.append_nil, Act.put, List.setIfInBounds_toArray, List.set_cons_succ, List.set_cons_zero]; have hl := @Later.cell; (repeat (go_big_quiet_step (first | (go_at_call 61; exact Calls.later (hac1.out _)) | (go_at_call 60; exact Calls.later (hleg.out _))))); exact wpQuiet_nil hLQ)); (intro W2 hW2; simp only [pickO, List.drop_succ_cons, List.drop_zero, List.take_succ_cons, List.take_zero, List.cons_append, List.nil_append, List.append_nil, Act.put, List.setIfInBounds_toArray, List.set_cons_succ, List.set_cons_zero])
  replace hB := heap_old hW2 hB
  replace hR := heap_old hW2 hR
  replace hV := heap_old hW2 hV
  replace hK := Below.next hK (Nat.le_refl _) hW2
  (clear r0 r1 r2 r3 z0 z1 z2 z3)
  (clear q0 q1 q2 q3 y0 y1 y2 y3)
  (have b0 := cell_heap (o := 0) hB rfl; have b1 := cell_heap (o := 1) hB rfl; have b2 := cell_heap (o := 2) hB rfl; have b3 := cell_heap (o := 3) hB rfl; have b4 := cell_heap (o := 4) hB rfl)
  (have r0 := cell_heap (o := 0) hR rfl; have r1 := cell_heap (o := 1) hR rfl; have r2 := cell_heap (o := 2) hR rfl; have r3 := cell_heap (o := 3) hR rfl; have z0 := frozen_heap (o := 0) hR; have z1 := frozen_heap (o := 1) hR; have z2 := frozen_heap (o := 2) hR; have z3 := frozen_heap (o := 3) hR)
  (have q0 := cell_heap (o := 0) hV rfl; have q1 := cell_heap (o := 1) hV rfl; have q2 := cell_heap (o := 2) hV rfl; have q3 := cell_heap (o := 3) hV rfl; have y0 := frozen_heap (o := 0) hV; have y1 := frozen_heap (o := 1) hV; have y2 := frozen_heap (o := 2) hV; have y3 := frozen_heap (o := 3) hV)
  go_wp2_with fail
  replace hB := heap_set_other (g := w1.heap.size) (o := 1) (v := .int .u8 LEG) hB nBV
  replace hR := heap_set_other (g := w1.heap.size) (o := 1) (v := .int .u8 LEG) hR nRV
  replace hV := heap_set (o := 1) (v := .int .u8 LEG) hV
  simp only [List.setIfInBounds_toArray, List.set_cons_succ, List.set_cons_zero] at hV
  replace hK := Below.setCell hK hle (.int .u8 LEG) (p := ⟨w1.heap.size, 1, none⟩)
  (clear b0 b1 b2 b3 b4)
  (clear r0 r1 r2 r3 z0 z1 z2 z3)
  (clear q0 q1 q2 q3 y0 y1 y2 y3)
  (have b0 := cell_heap (o := 0) hB rfl; have b1 := cell_heap (o := 1) hB rfl; have b2 := cell_heap (o := 2) hB rfl; have b3 := cell_heap (o := 3) hB rfl; have b4 := cell_heap (o := 4) hB rfl)
  (have r0 := cell_heap (o := 0) hR rfl; have r1 := cell_heap (o := 1) hR rfl; have r2 := cell_heap (o := 2) hR rfl; have r3 := cell_heap (o := 3) hR rfl; have z0 := frozen_heap (o := 0) hR; have z1 := frozen_heap (o := 1) hR; have z2 := frozen_heap (o := 2) hR; have z3 := frozen_heap (o := 3) hR)
  (have q0 := cell_heap (o := 0) hV rfl; have q1 := cell_heap (o := 1) hV rfl; have q2 := cell_heap (o := 2) hV rfl; have q3 := cell_heap (o := 3) hV rfl; have y0 := frozen_heap (o := 0) hV; have y1 := frozen_heap (o := 1) hV; have y2 := frozen_heap (o := 2) hV; have y3 := frozen_heap (o := 3) hV)
  generalize World.setCell _ _ _ = wS at *
  (clear b0 b1 b2 b3 b4)
  apply region_gen 14 [] [0, 1, 2, 3, 4, 5, 6, 7, 8, 9, 10, 11, 12, 13] [14, 15]; (case hm => kernel_rfl); (case hS => rfl); (case hF => kernel_rfl); (case hB => kernel_rfl); (case hQ => exact fun _ _ _ _ _ h => h); (case f => (exact rfl)); (case hz => exact rfl); (case h => (intro LQ hLQ W1 hW1; have hK1 := Below.next hK (Nat.le_refl _) hW1; have hB1 := heap_old hW1 hB; obtain ⟨d0, d1, d2, d3, d4⟩ := SeenAt.below hC0.out hK1; have b0 := cell_heap (o := 0) hB1 rfl; have b1 := cell_heap (o := 1) hB1 rfl; have b2 := cell_heap (o := 2) hB1 rfl; simp only [pickO, List.drop_succ_cons, List.drop_zero, List.take_succ_cons, List.take_zero, List.cons_append, List.nil_append, List.append_nil, Act.put, List.setIfInBounds_toArray, List.set_cons_succ, List.set_cons_zero]; have hl := @Later.cell; (repeat (go_big_quiet_step (first | (go_at_call 61; exact Calls.later (hac2.out _)) | (go_at_call 62; exact Calls.later (himp.out _))))); exact wpQuiet_nil hLQ)); (intro W2 hW2; simp only [pickO, List.drop_succ_cons, List.drop_zero, List.take_succ_cons, List.take_zero, List.cons_append, List.nil_append, List.append_nil, Act.put, List.setIfInBounds_toArray, List.set_cons_succ, List.set_cons_zero])
  replace hB := heap_old hW2 hB
  replace hR := heap_old hW2 hR
  replace hV := heap_old hW2 hV
  replace hK := Below.next hK (Nat.le_refl _) hW2
  (clear r0 r1 r2 r3 z0 z1 z2 z3)
  (clear q0 q1 q2 q3 y0 y1 y2 y3)
  (have b0 := cell_heap (o := 0) hB rfl; have b1 := cell_heap (o := 1) hB rfl; have b2 := cell_heap (o := 2) hB rfl; have b3 := cell_heap (o := 3) hB rfl; have b4 := cell_heap (o := 4) hB rfl)
  (have r0 := cell_heap (o := 0) hR rfl; have r1 := cell_heap (o := 1) hR rfl; have r2 := cell_heap (o := 2) hR rfl; have r3 := cell_heap (o := 3) hR rfl; have z0 := frozen_heap (o := 0) hR; have z1 := frozen_heap (o := 1) hR; have z2 := frozen_heap (o := 2) hR; have z3 := frozen_heap (o := 3) hR)
  (have q0 := cell_heap (o := 0) hV rfl; have q1 := cell_heap (o := 1) hV rfl; have q2 := cell_heap (o := 2) hV rfl; have q3 := cell_heap (o := 3) hV rfl; have y0 := frozen_heap (o := 0) hV; have y1 := frozen_heap (o := 1) hV; have y2 := frozen_heap (o := 2) hV; have y3 := frozen_heap (o := 3) hV)
  go_wp2_with (first
    | (go_at_call 38; replace hB := heap_set_other (g := w1.heap.size) (o := 2) (v := .int .u8 LINE) hB nBV; replace hR := heap_set_other (g := w1.heap.size) (o := 2) (v := .int .u8 LINE) hR nRV; replace hV := heap_set (o := 2) (v := .int .u8 LINE) hV; simp only [List.setIfInBounds_toArray, List.set_cons_succ, List.set_cons_zero] at hV; replace hK := Below.setCell hK hle (.int .u8 LINE) (p := ⟨w1.heap.size, 2, none⟩); refine (hcr.out _ (h.below hK)).mono ?_; rintro e w5 ⟨rfl, hb5⟩; replace hB := heap_old hb5 hB; replace hR := heap_old hb5 hR; replace hV := heap_old hb5 hV; replace hK := Below.next hK (Nat.le_refl _) hb5; clear hb5; (clear b0 b1 b2 b3 b4); (clear r0 r1 r2 r3 z0 z1 z2 z3); (clear q0 q1 q2 q3 y0 y1 y2 y3); (have b0 := cell_heap (o := 0) hB rfl; have b1 := cell_heap (o := 1) hB rfl; have b2 := cell_heap (o := 2) hB rfl; have b3 := cell_heap (o := 3) hB rfl; have b4 := cell_heap (o := 4) hB rfl); (have r0 := cell_heap (o := 0) hR rfl; have r1 := cell_heap (o := 1) hR rfl; have r2 := cell_heap (o := 2) hR rfl; have r3 := cell_heap (o := 3) hR rfl; have z0 := frozen_heap (o := 0) hR; have z1 := frozen_heap (o := 1) hR; have z2 := frozen_heap (o := 2) hR; have z3 := frozen_heap (o := 3) hR); (have q0 := cell_heap (o := 0) hV rfl; have q1 := cell_heap (o := 1) hV rfl; have q2 := cell_heap (o := 2) hV rfl; have q3 := cell_heap (o := 3) hV rfl; have y0 := frozen_heap (o := 0) hV; have y1 := frozen_heap (o := 1) hV; have y2 := frozen_heap (o := 2) hV; have y3 := frozen_heap (o := 3) hV); have hC := heap_new w5 (.cells #[.int .i64 0, .int .i64 0, .int .i64 0, .int .i64 0, .int .i64 0, .int .i64 0] 70) rfl; replace hB := heap_alloc (X := (.cells #[.int .i64 0, .int .i64 0, .int .i64 0, .int .i64 0, .int .i64 0, .int .i64 0] 70)) hB; replace hR := heap_alloc (X := (.cells #[.int .i64 0, .int .i64 0, .int .i64 0, .int .i64 0, .int .i64 0, .int .i64 0] 70)) hR; replace hV := heap_alloc (X := (.cells #[.int .i64 0, .int .i64 0, .int .i64 0, .int .i64 0, .int .i64 0, .int .i64 0] 70)) hV; replace hK := hK.alloc hK.size (.cells #[.int .i64 0, .int .i64 0, .int .i64 0, .int .i64 0, .int .i64 0, .int .i64 0] 70); (clear b0 b1 b2 b3 b4); (clear r0 r1 r2 r3 z0 z1 z2 z3); (clear q0 q1 q2 q3 y0 y1 y2 y3); (have b0 := cell_heap (o := 0) hB rfl; have b1 := cell_heap (o := 1) hB rfl; have b2 := cell_heap (o := 2) hB rfl; have b3 := cell_heap (o := 3) hB rfl; have b4 := cell_heap (o := 4) hB rfl); (have r0 := cell_heap (o := 0) hR rfl; have r1 := cell_heap (o := 1) hR rfl; have r2 := cell_heap (o := 2) hR rfl; have r3 := cell_heap (o := 3) hR rfl; have z0 := frozen_heap (o := 0) hR; have z1 := frozen_heap (o := 1) hR; have z2 := frozen_heap (o := 2) hR; have z3 := frozen_heap (o := 3) hR); (have q0 := cell_heap (o := 0) hV rfl; have q1 := cell_heap (o := 1) hV rfl; have q2 := cell_heap (o := 2) hV rfl; have q3 := cell_heap (o := 3) hV rfl; have y0 := frozen_heap (o := 0) hV; have y1 := frozen_heap (o := 1) hV; have y2 := frozen_heap (o := 2) hV; have y3 := frozen_heap (o := 3) hV); (have c0 := cell_heap (o := 0) hC rfl; have c1 := cell_heap (o := 1) hC rfl; have c2 := cell_heap (o := 2) hC rfl; have c3 := cell_heap (o := 3) hC rfl; have c4 := cell_heap (o := 4) hC rfl; have c5 := cell_heap (o := 5) hC rfl); have hlt5 := (Array.getElem?_eq_some_iff.1 hC).1)
    | (go_at_call 65; refine (hru.out _).mono ?_; rintro e w9 ⟨rfl, rfl⟩))
  replace hR := heap_set_other (g := w1.heap.size) (o := 0) (v := .int .u8 CALL) hR nRV
  replace hV := heap_set (o := 0) (v := .int .u8 CALL) hV
  simp only [List.setIfInBounds_toArray, List.set_cons_succ, List.set_cons_zero] at hV
  replace hK := Below.setCell hK hle (.int .u8 CALL) (p := ⟨w1.heap.size, 0, none⟩)
  have hE := heap_set (o := 3) (v := .int .u8 3) (heap_set (o := 2) (v := .int .u8 LINE) (heap_set (o := 1) (v := .int .u8 LEG) (heap_set (o := 0) (v := .int .u8 CALL) hR)))
  simp only [List.setIfInBounds_toArray, List.set_cons_succ, List.set_cons_zero] at hE
  have k0 := cell_heap (o := 0) hE rfl
  have k1 := cell_heap (o := 1) hE rfl
  have k2 := cell_heap (o := 2) hE rfl
  have k3 := cell_heap (o := 3) hE rfl
  refine bodyPost_ret (v := .tuple #[.agg #[.int .u8 CALL, .int .u8 LEG, .int .u8 LINE, .int .u8 3], .int .i64 0]) (by simp only [results, Try.results23]; go_simp) rfl ⟨rfl, ?_⟩
  exact Below.setCell (Below.setCell (Below.setCell (Below.setCell hK (Nat.le_succ _) _) (Nat.le_succ _) _) (Nat.le_succ _) _) (Nat.le_succ _) _
set_option maxRecDepth 100000 in
set_option maxHeartbeats 8000000 in
theorem decide_nc (v : Value) (l : List SN) (left shot bat void : Bool) (w : World) (h : Seens w v l) (hb : behE l = 0) (hq : bncK l = 0) (hc : crsE l = 0) : Calls Try.prog 23 #[.agg #[v, .bool left, .bool shot, .bool bat, .bool void]] w fun e w' => e = .returned (decV l left shot bat void) ∧ Below w.heap.size w w' := by
  have e1 : decV l left shot bat void = .tuple #[.agg #[.int .u8 (decCall l left shot bat void), .int .u8 (decLeg l left), .int .u8 (decLine l left shot), .int .u8 (decWkt l left)], .int .i64 0] := by unfold decV; rw [if_pos hb]
  rw [e1]
  have hck := Lib.hid (fun w' (h : Seens w' v l) => lcheck_any v l left shot bat void w' h)
  rw [hb] at hck
  have hch := (behE_len hb).1
  have hn2 := beh_pos hb
  have hl64 := chkE_len hch
  have hbo := Lib.hid (fun w' (h : Seens w' v l) => by have := bounce_ok v l w' h; rwa [show bncQ l = false from by unfold bncQ; simp [hq]] at this)
  have dL : decLeg l left = 2 := by unfold decLeg; rw [if_pos hq]
  have hr : l[l.length - 1]? = some (atS l (l.length - 1)) := by unfold atS; rw [List.getElem?_eq_getElem (show l.length - 1 < l.length by omega)]
  have hro := chkE_ok hch _ (atS_mem (show l.length - 1 < l.length by omega))
  have hac2 := Lib.hid (fun w => across_any (atS l (l.length - 1)) left hro w)
  have himp := Lib.hid (fun w => impact_any (plLo (atS l (l.length - 1)) left) (plHi (atS l (l.length - 1)) left) shot w)
  have dI : decLine l left shot = impactV (plLo (atS l (l.length - 1)) left) (plHi (atS l (l.length - 1)) left) shot := rfl
  rw [← dI] at himp
  have hcr := Lib.hid (fun w' (h : Seens w' v l) => by have := cross_any v l w' h; unfold crsV at this; rwa [if_pos hc] at this)
  obtain ⟨hv1, hv2⟩ := cross_valid hc
  have hsd := Lib.hid (fun w => by have := side_any (cYlo l) (cYhi l) left w; rwa [sideV_ok hv1] at this)
  have hwk := Lib.hid (fun w => wicket_any (sdLo (cYlo l) (cYhi l) left) (sdHi (cYlo l) (cYhi l) left) (cZlo l) (cZhi l) 180 w)
  have dW : decWkt l left = wicketV (sdLo (cYlo l) (cYhi l) left) (sdHi (cYlo l) (cYhi l) left) (cZlo l) (cZhi l) 180 := by unfold decWkt; rw [if_pos hc]
  rw [← dW] at hwk
  unfold cYlo cYhi at hsd hwk
  unfold cZlo cZhi at hwk
  have hru := Lib.hid (fun w => rule_any (decLeg l left) (decLine l left shot) (decWkt l left) bat void w)
  have dC : decCall l left shot bat void = ruleV (decLeg l left) (decLine l left shot) (decWkt l left) bat void := rfl
  rw [← dC] at hru
  rw [dL] at hru ⊢
  clear dC dI dW dL e1
  generalize decCall l left shot bat void = CALL at *
  generalize decLine l left shot = LINE at *
  generalize decWkt l left = WKT at *
  generalize plLo (atS l (l.length - 1)) left = p3 at *
  generalize plHi (atS l (l.length - 1)) left = p4 at *
  generalize atS l (l.length - 1) = r at *
  generalize sdLo (loR (bnds 1 (bhdL l)) (cT1 l) (cT2 l)) (hiR (bnds 1 (bhdL l)) (cT1 l) (cT2 l)) left = sl at *
  generalize sdHi (loR (bnds 1 (bhdL l)) (cT1 l) (cT2 l)) (hiR (bnds 1 (bhdL l)) (cT1 l) (cT2 l)) left = sh at *
  generalize fallLo (loR (bnds 2 (bhdL l)) (cT1 l) (cT2 l)) (hiR (bnds 2 (bhdL l)) (cT1 l) (cT2 l)) (cT1 l) (cT2 l) = zl at *
  generalize fallHi (loR (bnds 2 (bhdL l)) (cT1 l) (cT2 l)) (hiR (bnds 2 (bhdL l)) (cT1 l) (cT2 l)) (cT1 l) (cT2 l) = zh at *
  generalize loR (bnds 1 (bhdL l)) (cT1 l) (cT2 l) = yl at *
  generalize hiR (bnds 1 (bhdL l)) (cT1 l) (cT2 l) = yh at *
  generalize cT1 l = ta at *
  generalize cT2 l = tb at *
  rw [hq] at hbo
  obtain ⟨n, hn⟩ : ∃ n, l.length = n + 1 := ⟨l.length - 1, by omega⟩
  have hn64 : n ≤ 63 := by omega
  have hR0 := Lib.hid hr
  clear hr hb hq hc hch hn2 hl64
  have h0 := h
  obtain ⟨pa, b, o, cap, rfl, g1, g2, g3, g4⟩ := h0
  have hcap : cap ≤ 9223372036854775807 := by unfold maxLen at g3; omega
  obtain rfl := g1 (by omega)
  have hrr := hR0.out
  rw [hn, Nat.add_sub_cancel] at hrr
  have hC0 := Lib.hid (g4 n r hrr)
  rw [hn] at g2 h hck hbo hcr ⊢
  clear g4 hrr hR0 g1
  go_enter Try.func23, Try.ntmps23
  go_wp2_with (first
    | (go_at_call 49; refine (hck.out _ (h.below (by repeat (first | with_reducible exact Below.refl _ _ | with_reducible assumption | with_reducible refine Below.drew ?_ | with_reducible refine Below.setCell ?_ (by first | omega | (simp; omega) | simp) _ | with_reducible refine Below.alloc ?_ (by first | omega | (simp; omega) | simp) _ | with_reducible refine Below.trans ?_ (Below.mono (by with_reducible assumption) (by first | omega | (simp; omega) | simp)))))).mono ?_; rintro e w1 ⟨rfl, hb1⟩; have hB := heap_old hb1 (heap_alloc (X := (.cells #[.int .u8 0, .int .u8 0, .int .u8 0, .int .u8 0] 47)) (heap_new w (.cells #[.slice (some ⟨b, o, none⟩) (n + 1) cap, .bool left, .bool shot, .bool bat, .bool void] 43) rfl)); have hR := heap_old hb1 (heap_new (w.alloc (.cells #[.slice (some ⟨b, o, none⟩) (n + 1) cap, .bool left, .bool shot, .bool bat, .bool void] 43)) (.cells #[.int .u8 0, .int .u8 0, .int .u8 0, .int .u8 0] 47) (b := w.heap.size + 1) (by simp)); have hK := Below.next2 (Below.refl w.heap.size w) (Nat.le_refl _) hb1; clear hb1; (have b0 := cell_heap (o := 0) hB rfl; have b1 := cell_heap (o := 1) hB rfl; have b2 := cell_heap (o := 2) hB rfl; have b3 := cell_heap (o := 3) hB rfl; have b4 := cell_heap (o := 4) hB rfl); (have r0 := cell_heap (o := 0) hR rfl; have r1 := cell_heap (o := 1) hR rfl; have r2 := cell_heap (o := 2) hR rfl; have r3 := cell_heap (o := 3) hR rfl; have z0 := frozen_heap (o := 0) hR; have z1 := frozen_heap (o := 1) hR; have z2 := frozen_heap (o := 2) hR; have z3 := frozen_heap (o := 3) hR))
    | (go_at_call 25; have hwv := (Array.getElem?_eq_some_iff.1 hR).1; have hV := heap_new w1 (.cells #[.int .u8 0, .int .u8 2, .int .u8 0, .int .u8 3] 47) rfl; replace hB := heap_alloc (X := (.cells #[.int .u8 0, .int .u8 2, .int .u8 0, .int .u8 3] 47)) hB; replace hR := heap_alloc (X := (.cells #[.int .u8 0, .int .u8 2, .int .u8 0, .int .u8 3] 47)) hR; replace hK := hK.alloc hK.size (.cells #[.int .u8 0, .int .u8 2, .int .u8 0, .int .u8 3] 47); (have q0 := cell_heap (o := 0) hV rfl; have q1 := cell_heap (o := 1) hV rfl; have q2 := cell_heap (o := 2) hV rfl; have q3 := cell_heap (o := 3) hV rfl; have y0 := frozen_heap (o := 0) hV; have y1 := frozen_heap (o := 1) hV; have y2 := frozen_heap (o := 2) hV; have y3 := frozen_heap (o := 3) hV); refine (hbo.out _ (h.below hK)).mono ?_; rintro e w2 ⟨rfl, hb2⟩; replace hB := heap_old hb2 hB; replace hR := heap_old hb2 hR; replace hV := heap_old hb2 hV; replace hK := Below.next hK (Nat.le_refl _) hb2; clear hb2; (clear b0 b1 b2 b3 b4); (clear r0 r1 r2 r3 z0 z1 z2 z3); (clear q0 q1 q2 q3 y0 y1 y2 y3); (have b0 := cell_heap (o := 0) hB rfl; have b1 := cell_heap (o := 1) hB rfl; have b2 := cell_heap (o := 2) hB rfl; have b3 := cell_heap (o := 3) hB rfl; have b4 := cell_heap (o := 4) hB rfl); (have r0 := cell_heap (o := 0) hR rfl; have r1 := cell_heap (o := 1) hR rfl; have r2 := cell_heap (o := 2) hR rfl; have r3 := cell_heap (o := 3) hR rfl; have z0 := frozen_heap (o := 0) hR; have z1 := frozen_heap (o := 1) hR; have z2 := frozen_heap (o := 2) hR; have z3 := frozen_heap (o := 3) hR); (have q0 := cell_heap (o := 0) hV rfl; have q1 := cell_heap (o := 1) hV rfl; have q2 := cell_heap (o := 2) hV rfl; have q3 := cell_heap (o := 3) hV rfl; have y0 := frozen_heap (o := 0) hV; have y1 := frozen_heap (o := 1) hV; have y2 := frozen_heap (o := 2) hV; have y3 := frozen_heap (o := 3) hV)))
  have nVB : w1.heap.size ≠ w.heap.size := by omega
  have nVR : w1.heap.size ≠ w.heap.size + 1 := by omega
  have nBV : w.heap.size ≠ w1.heap.size := by omega
  have nRV : w.heap.size + 1 ≠ w1.heap.size := by omega
  have hle : w.heap.size ≤ w1.heap.size := by omega
  (clear b0 b1 b2 b3 b4)
  apply region_gen 14 [] [0, 1, 2, 3, 4, 5, 6, 7, 8, 9, 10, 11, 12, 13] [14, 15]; (case hm => kernel_rfl); (case hS => rfl); (case hF => kernel_rfl); (case hB => kernel_rfl); (case hQ => exact fun _ _ _ _ _ h => h); (case f => (exact rfl)); (case hz => exact rfl); (case h => (intro LQ hLQ W1 hW1; have hK1 := Below.next hK (Nat.le_refl _) hW1; have hB1 := heap_old hW1 hB; obtain ⟨d0, d1, d2, d3, d4⟩ := SeenAt.below hC0.out hK1; have b0 := cell_heap (o := 0) hB1 rfl; have b1 := cell_heap (o := 1) hB1 rfl; have b2 := cell_heap (o := 2) hB1 rfl; simp only [pickO, List.drop_succ_cons, List.drop_zero, List.take_succ_cons, List.take_zero, List.cons_append, List.nil_append, List.append_nil, Act.put, List.setIfInBounds_toArray, List.set_cons_succ, List.set_cons_zero]; have hl := @Later.cell; (repeat (go_big_quiet_step (first | (go_at_call 61; exact Calls.later (hac2.out _)) | (go_at_call 62; exact Calls.later (himp.out _))))); exact wpQuiet_nil hLQ)); (intro W2 hW2; simp only [pickO, List.drop_succ_cons, List.drop_zero, List.take_succ_cons, List.take_zero, List.cons_append, List.nil_append, List.append_nil, Act.put, List.setIfInBounds_toArray, List.set_cons_succ, List.set_cons_zero])
  replace hB := heap_old hW2 hB
  replace hR := heap_old hW2 hR
  replace hV := heap_old hW2 hV
  replace hK := Below.next hK (Nat.le_refl _) hW2
  (clear r0 r1 r2 r3 z0 z1 z2 z3)
  (clear q0 q1 q2 q3 y0 y1 y2 y3)
  (have b0 := cell_heap (o := 0) hB rfl; have b1 := cell_heap (o := 1) hB rfl; have b2 := cell_heap (o := 2) hB rfl; have b3 := cell_heap (o := 3) hB rfl; have b4 := cell_heap (o := 4) hB rfl)
  (have r0 := cell_heap (o := 0) hR rfl; have r1 := cell_heap (o := 1) hR rfl; have r2 := cell_heap (o := 2) hR rfl; have r3 := cell_heap (o := 3) hR rfl; have z0 := frozen_heap (o := 0) hR; have z1 := frozen_heap (o := 1) hR; have z2 := frozen_heap (o := 2) hR; have z3 := frozen_heap (o := 3) hR)
  (have q0 := cell_heap (o := 0) hV rfl; have q1 := cell_heap (o := 1) hV rfl; have q2 := cell_heap (o := 2) hV rfl; have q3 := cell_heap (o := 3) hV rfl; have y0 := frozen_heap (o := 0) hV; have y1 := frozen_heap (o := 1) hV; have y2 := frozen_heap (o := 2) hV; have y3 := frozen_heap (o := 3) hV)
  go_wp2_with (first
    | (go_at_call 38; replace hB := heap_set_other (g := w1.heap.size) (o := 2) (v := .int .u8 LINE) hB nBV; replace hR := heap_set_other (g := w1.heap.size) (o := 2) (v := .int .u8 LINE) hR nRV; replace hV := heap_set (o := 2) (v := .int .u8 LINE) hV; simp only [List.setIfInBounds_toArray, List.set_cons_succ, List.set_cons_zero] at hV; replace hK := Below.setCell hK hle (.int .u8 LINE) (p := ⟨w1.heap.size, 2, none⟩); refine (hcr.out _ (h.below hK)).mono ?_; rintro e w5 ⟨rfl, hb5⟩; replace hB := heap_old hb5 hB; replace hR := heap_old hb5 hR; replace hV := heap_old hb5 hV; replace hK := Below.next hK (Nat.le_refl _) hb5; clear hb5; (clear b0 b1 b2 b3 b4); (clear r0 r1 r2 r3 z0 z1 z2 z3); (clear q0 q1 q2 q3 y0 y1 y2 y3); (have b0 := cell_heap (o := 0) hB rfl; have b1 := cell_heap (o := 1) hB rfl; have b2 := cell_heap (o := 2) hB rfl; have b3 := cell_heap (o := 3) hB rfl; have b4 := cell_heap (o := 4) hB rfl); (have r0 := cell_heap (o := 0) hR rfl; have r1 := cell_heap (o := 1) hR rfl; have r2 := cell_heap (o := 2) hR rfl; have r3 := cell_heap (o := 3) hR rfl; have z0 := frozen_heap (o := 0) hR; have z1 := frozen_heap (o := 1) hR; have z2 := frozen_heap (o := 2) hR; have z3 := frozen_heap (o := 3) hR); (have q0 := cell_heap (o := 0) hV rfl; have q1 := cell_heap (o := 1) hV rfl; have q2 := cell_heap (o := 2) hV rfl; have q3 := cell_heap (o := 3) hV rfl; have y0 := frozen_heap (o := 0) hV; have y1 := frozen_heap (o := 1) hV; have y2 := frozen_heap (o := 2) hV; have y3 := frozen_heap (o := 3) hV); have hC := heap_new w5 (.cells #[.int .i64 ta, .int .i64 tb, .int .i64 yl, .int .i64 yh, .int .i64 zl, .int .i64 zh] 70) rfl; replace hB := heap_alloc (X := (.cells #[.int .i64 ta, .int .i64 tb, .int .i64 yl, .int .i64 yh, .int .i64 zl, .int .i64 zh] 70)) hB; replace hR := heap_alloc (X := (.cells #[.int .i64 ta, .int .i64 tb, .int .i64 yl, .int .i64 yh, .int .i64 zl, .int .i64 zh] 70)) hR; replace hV := heap_alloc (X := (.cells #[.int .i64 ta, .int .i64 tb, .int .i64 yl, .int .i64 yh, .int .i64 zl, .int .i64 zh] 70)) hV; replace hK := hK.alloc hK.size (.cells #[.int .i64 ta, .int .i64 tb, .int .i64 yl, .int .i64 yh, .int .i64 zl, .int .i64 zh] 70); (clear b0 b1 b2 b3 b4); (clear r0 r1 r2 r3 z0 z1 z2 z3); (clear q0 q1 q2 q3 y0 y1 y2 y3); (have b0 := cell_heap (o := 0) hB rfl; have b1 := cell_heap (o := 1) hB rfl; have b2 := cell_heap (o := 2) hB rfl; have b3 := cell_heap (o := 3) hB rfl; have b4 := cell_heap (o := 4) hB rfl); (have r0 := cell_heap (o := 0) hR rfl; have r1 := cell_heap (o := 1) hR rfl; have r2 := cell_heap (o := 2) hR rfl; have r3 := cell_heap (o := 3) hR rfl; have z0 := frozen_heap (o := 0) hR; have z1 := frozen_heap (o := 1) hR; have z2 := frozen_heap (o := 2) hR; have z3 := frozen_heap (o := 3) hR); (have q0 := cell_heap (o := 0) hV rfl; have q1 := cell_heap (o := 1) hV rfl; have q2 := cell_heap (o := 2) hV rfl; have q3 := cell_heap (o := 3) hV rfl; have y0 := frozen_heap (o := 0) hV; have y1 := frozen_heap (o := 1) hV; have y2 := frozen_heap (o := 2) hV; have y3 := frozen_heap (o := 3) hV); (have c0 := cell_heap (o := 0) hC rfl; have c1 := cell_heap (o := 1) hC rfl; have c2 := cell_heap (o := 2) hC rfl; have c3 := cell_heap (o := 3) hC rfl; have c4 := cell_heap (o := 4) hC rfl; have c5 := cell_heap (o := 5) hC rfl); have hlt5 := (Array.getElem?_eq_some_iff.1 hC).1)
    | (go_at_call 63; refine (hsd.out _).mono ?_; rintro e w6 ⟨rfl, hb6⟩; replace hC := heap_old hb6 hC; replace hB := heap_old hb6 hB; replace hR := heap_old hb6 hR; replace hV := heap_old hb6 hV; replace hK := Below.next hK (Nat.le_refl _) hb6; clear hb6; (clear b0 b1 b2 b3 b4); (clear r0 r1 r2 r3 z0 z1 z2 z3); (clear q0 q1 q2 q3 y0 y1 y2 y3); (have b0 := cell_heap (o := 0) hB rfl; have b1 := cell_heap (o := 1) hB rfl; have b2 := cell_heap (o := 2) hB rfl; have b3 := cell_heap (o := 3) hB rfl; have b4 := cell_heap (o := 4) hB rfl); (have r0 := cell_heap (o := 0) hR rfl; have r1 := cell_heap (o := 1) hR rfl; have r2 := cell_heap (o := 2) hR rfl; have r3 := cell_heap (o := 3) hR rfl; have z0 := frozen_heap (o := 0) hR; have z1 := frozen_heap (o := 1) hR; have z2 := frozen_heap (o := 2) hR; have z3 := frozen_heap (o := 3) hR); (have q0 := cell_heap (o := 0) hV rfl; have q1 := cell_heap (o := 1) hV rfl; have q2 := cell_heap (o := 2) hV rfl; have q3 := cell_heap (o := 3) hV rfl; have y0 := frozen_heap (o := 0) hV; have y1 := frozen_heap (o := 1) hV; have y2 := frozen_heap (o := 2) hV; have y3 := frozen_heap (o := 3) hV); have hY := heap_new w6 (.cells #[.int .i64 sl, .int .i64 sh] 34) rfl; replace hC := heap_alloc (X := (.cells #[.int .i64 sl, .int .i64 sh] 34)) hC; replace hB := heap_alloc (X := (.cells #[.int .i64 sl, .int .i64 sh] 34)) hB; replace hR := heap_alloc (X := (.cells #[.int .i64 sl, .int .i64 sh] 34)) hR; replace hV := heap_alloc (X := (.cells #[.int .i64 sl, .int .i64 sh] 34)) hV; replace hK := hK.alloc hK.size (.cells #[.int .i64 sl, .int .i64 sh] 34); (clear b0 b1 b2 b3 b4); (clear r0 r1 r2 r3 z0 z1 z2 z3); (clear q0 q1 q2 q3 y0 y1 y2 y3); (have b0 := cell_heap (o := 0) hB rfl; have b1 := cell_heap (o := 1) hB rfl; have b2 := cell_heap (o := 2) hB rfl; have b3 := cell_heap (o := 3) hB rfl; have b4 := cell_heap (o := 4) hB rfl); (have r0 := cell_heap (o := 0) hR rfl; have r1 := cell_heap (o := 1) hR rfl; have r2 := cell_heap (o := 2) hR rfl; have r3 := cell_heap (o := 3) hR rfl; have z0 := frozen_heap (o := 0) hR; have z1 := frozen_heap (o := 1) hR; have z2 := frozen_heap (o := 2) hR; have z3 := frozen_heap (o := 3) hR); (have q0 := cell_heap (o := 0) hV rfl; have q1 := cell_heap (o := 1) hV rfl; have q2 := cell_heap (o := 2) hV rfl; have q3 := cell_heap (o := 3) hV rfl; have y0 := frozen_heap (o := 0) hV; have y1 := frozen_heap (o := 1) hV; have y2 := frozen_heap (o := 2) hV; have y3 := frozen_heap (o := 3) hV); clear c0 c1 c2 c3 c4 c5; (have c0 := cell_heap (o := 0) hC rfl; have c1 := cell_heap (o := 1) hC rfl; have c2 := cell_heap (o := 2) hC rfl; have c3 := cell_heap (o := 3) hC rfl; have c4 := cell_heap (o := 4) hC rfl; have c5 := cell_heap (o := 5) hC rfl))
    | (go_at_call 64; refine (hwk.out _).mono ?_; rintro e w7 ⟨rfl, hb7⟩; replace hB := heap_old hb7 hB; replace hR := heap_old hb7 hR; replace hV := heap_old hb7 hV; replace hK := Below.next hK (Nat.le_refl _) hb7; clear hb7; (clear b0 b1 b2 b3 b4); (clear r0 r1 r2 r3 z0 z1 z2 z3); (clear q0 q1 q2 q3 y0 y1 y2 y3); (have b0 := cell_heap (o := 0) hB rfl; have b1 := cell_heap (o := 1) hB rfl; have b2 := cell_heap (o := 2) hB rfl; have b3 := cell_heap (o := 3) hB rfl; have b4 := cell_heap (o := 4) hB rfl); (have r0 := cell_heap (o := 0) hR rfl; have r1 := cell_heap (o := 1) hR rfl; have r2 := cell_heap (o := 2) hR rfl; have r3 := cell_heap (o := 3) hR rfl; have z0 := frozen_heap (o := 0) hR; have z1 := frozen_heap (o := 1) hR; have z2 := frozen_heap (o := 2) hR; have z3 := frozen_heap (o := 3) hR); (have q0 := cell_heap (o := 0) hV rfl; have q1 := cell_heap (o := 1) hV rfl; have q2 := cell_heap (o := 2) hV rfl; have q3 := cell_heap (o := 3) hV rfl; have y0 := frozen_heap (o := 0) hV; have y1 := frozen_heap (o := 1) hV; have y2 := frozen_heap (o := 2) hV; have y3 := frozen_heap (o := 3) hV))
    | (go_at_call 65; replace hB := heap_set_other (g := w1.heap.size) (o := 3) (v := .int .u8 WKT) hB nBV; replace hR := heap_set_other (g := w1.heap.size) (o := 3) (v := .int .u8 WKT) hR nRV; replace hV := heap_set (o := 3) (v := .int .u8 WKT) hV; simp only [List.setIfInBounds_toArray, List.set_cons_succ, List.set_cons_zero] at hV; replace hK := Below.setCell hK hle (.int .u8 WKT) (p := ⟨w1.heap.size, 3, none⟩); refine (hru.out _).mono ?_; rintro e w9 ⟨rfl, rfl⟩; (clear b0 b1 b2 b3 b4); (clear r0 r1 r2 r3 z0 z1 z2 z3); (clear q0 q1 q2 q3 y0 y1 y2 y3); (have b0 := cell_heap (o := 0) hB rfl; have b1 := cell_heap (o := 1) hB rfl; have b2 := cell_heap (o := 2) hB rfl; have b3 := cell_heap (o := 3) hB rfl; have b4 := cell_heap (o := 4) hB rfl); (have r0 := cell_heap (o := 0) hR rfl; have r1 := cell_heap (o := 1) hR rfl; have r2 := cell_heap (o := 2) hR rfl; have r3 := cell_heap (o := 3) hR rfl; have z0 := frozen_heap (o := 0) hR; have z1 := frozen_heap (o := 1) hR; have z2 := frozen_heap (o := 2) hR; have z3 := frozen_heap (o := 3) hR); (have q0 := cell_heap (o := 0) hV rfl; have q1 := cell_heap (o := 1) hV rfl; have q2 := cell_heap (o := 2) hV rfl; have q3 := cell_heap (o := 3) hV rfl; have y0 := frozen_heap (o := 0) hV; have y1 := frozen_heap (o := 1) hV; have y2 := frozen_heap (o := 2) hV; have y3 := frozen_heap (o := 3) hV)))
  replace hR := heap_set_other (g := w1.heap.size) (o := 0) (v := .int .u8 CALL) hR nRV
  replace hV := heap_set (o := 0) (v := .int .u8 CALL) hV
  simp only [List.setIfInBounds_toArray, List.set_cons_succ, List.set_cons_zero] at hV
  replace hK := Below.setCell hK hle (.int .u8 CALL) (p := ⟨w1.heap.size, 0, none⟩)
  have hE := heap_set (o := 3) (v := .int .u8 WKT) (heap_set (o := 2) (v := .int .u8 LINE) (heap_set (o := 1) (v := .int .u8 2) (heap_set (o := 0) (v := .int .u8 CALL) hR)))
  simp only [List.setIfInBounds_toArray, List.set_cons_succ, List.set_cons_zero] at hE
  have k0 := cell_heap (o := 0) hE rfl
  have k1 := cell_heap (o := 1) hE rfl
  have k2 := cell_heap (o := 2) hE rfl
  have k3 := cell_heap (o := 3) hE rfl
  refine bodyPost_ret (v := .tuple #[.agg #[.int .u8 CALL, .int .u8 2, .int .u8 LINE, .int .u8 WKT], .int .i64 0]) (by simp only [results, Try.results23]; go_simp) rfl ⟨rfl, ?_⟩
  exact Below.setCell (Below.setCell (Below.setCell (Below.setCell hK (Nat.le_succ _) _) (Nat.le_succ _) _) (Nat.le_succ _) _) (Nat.le_succ _) _
set_option maxRecDepth 100000 in
set_option maxHeartbeats 8000000 in
theorem decide_bc (v : Value) (l : List SN) (left shot bat void : Bool) (w : World) (h : Seens w v l) (hb : behE l = 0) (hq : bncK l ≠ 0) (hc : crsE l = 0) : Calls Try.prog 23 #[.agg #[v, .bool left, .bool shot, .bool bat, .bool void]] w fun e w' => e = .returned (decV l left shot bat void) ∧ Below w.heap.size w w' := by
  have e1 : decV l left shot bat void = .tuple #[.agg #[.int .u8 (decCall l left shot bat void), .int .u8 (decLeg l left), .int .u8 (decLine l left shot), .int .u8 (decWkt l left)], .int .i64 0] := by unfold decV; rw [if_pos hb]
  rw [e1]
  have hck := Lib.hid (fun w' (h : Seens w' v l) => lcheck_any v l left shot bat void w' h)
  rw [hb] at hck
  have hch := (behE_len hb).1
  have hn2 := beh_pos hb
  have hl64 := chkE_len hch
  have hbo := Lib.hid (fun w' (h : Seens w' v l) => by have := bounce_ok v l w' h; rwa [show bncQ l = true from by unfold bncQ; simp [hq]] at this)
  have hk := bncK_lt' (l := l) (by omega)
  have hs : l[bncK l]? = some (atS l (bncK l)) := by unfold atS; rw [List.getElem?_eq_getElem hk]
  have hso := chkE_ok hch _ (atS_mem hk)
  have hac1 := Lib.hid (fun w => across_any (atS l (bncK l)) left hso w)
  have hleg := Lib.hid (fun w => leg_any (plLo (atS l (bncK l)) left) (plHi (atS l (bncK l)) left) w)
  have dL : decLeg l left = ans (plLo (atS l (bncK l)) left) (plHi (atS l (bncK l)) left) (-4611686018427387904) (-1144) := by unfold decLeg; rw [if_neg hq]
  rw [← dL] at hleg
  have hr : l[l.length - 1]? = some (atS l (l.length - 1)) := by unfold atS; rw [List.getElem?_eq_getElem (show l.length - 1 < l.length by omega)]
  have hro := chkE_ok hch _ (atS_mem (show l.length - 1 < l.length by omega))
  have hac2 := Lib.hid (fun w => across_any (atS l (l.length - 1)) left hro w)
  have himp := Lib.hid (fun w => impact_any (plLo (atS l (l.length - 1)) left) (plHi (atS l (l.length - 1)) left) shot w)
  have dI : decLine l left shot = impactV (plLo (atS l (l.length - 1)) left) (plHi (atS l (l.length - 1)) left) shot := rfl
  rw [← dI] at himp
  have hcr := Lib.hid (fun w' (h : Seens w' v l) => by have := cross_any v l w' h; unfold crsV at this; rwa [if_pos hc] at this)
  obtain ⟨hv1, hv2⟩ := cross_valid hc
  have hsd := Lib.hid (fun w => by have := side_any (cYlo l) (cYhi l) left w; rwa [sideV_ok hv1] at this)
  have hwk := Lib.hid (fun w => wicket_any (sdLo (cYlo l) (cYhi l) left) (sdHi (cYlo l) (cYhi l) left) (cZlo l) (cZhi l) 180 w)
  have dW : decWkt l left = wicketV (sdLo (cYlo l) (cYhi l) left) (sdHi (cYlo l) (cYhi l) left) (cZlo l) (cZhi l) 180 := by unfold decWkt; rw [if_pos hc]
  rw [← dW] at hwk
  unfold cYlo cYhi at hsd hwk
  unfold cZlo cZhi at hwk
  have hru := Lib.hid (fun w => rule_any (decLeg l left) (decLine l left shot) (decWkt l left) bat void w)
  have dC : decCall l left shot bat void = ruleV (decLeg l left) (decLine l left shot) (decWkt l left) bat void := rfl
  rw [← dC] at hru
  clear dC dI dW dL e1
  generalize decCall l left shot bat void = CALL at *
  generalize decLine l left shot = LINE at *
  generalize decLeg l left = LEG at *
  generalize decWkt l left = WKT at *
  generalize plLo (atS l (bncK l)) left = p1 at *
  generalize plHi (atS l (bncK l)) left = p2 at *
  generalize atS l (bncK l) = s at *
  generalize plLo (atS l (l.length - 1)) left = p3 at *
  generalize plHi (atS l (l.length - 1)) left = p4 at *
  generalize atS l (l.length - 1) = r at *
  generalize sdLo (loR (bnds 1 (bhdL l)) (cT1 l) (cT2 l)) (hiR (bnds 1 (bhdL l)) (cT1 l) (cT2 l)) left = sl at *
  generalize sdHi (loR (bnds 1 (bhdL l)) (cT1 l) (cT2 l)) (hiR (bnds 1 (bhdL l)) (cT1 l) (cT2 l)) left = sh at *
  generalize fallLo (loR (bnds 2 (bhdL l)) (cT1 l) (cT2 l)) (hiR (bnds 2 (bhdL l)) (cT1 l) (cT2 l)) (cT1 l) (cT2 l) = zl at *
  generalize fallHi (loR (bnds 2 (bhdL l)) (cT1 l) (cT2 l)) (hiR (bnds 2 (bhdL l)) (cT1 l) (cT2 l)) (cT1 l) (cT2 l) = zh at *
  generalize loR (bnds 1 (bhdL l)) (cT1 l) (cT2 l) = yl at *
  generalize hiR (bnds 1 (bhdL l)) (cT1 l) (cT2 l) = yh at *
  generalize cT1 l = ta at *
  generalize cT2 l = tb at *
  generalize bncK l = kb at *
  obtain ⟨n, hn⟩ : ∃ n, l.length = n + 1 := ⟨l.length - 1, by omega⟩
  have hn64 : n ≤ 63 := by omega
  have hR0 := Lib.hid hr
  have hS0 := Lib.hid hs
  have hkn : kb < n + 1 := by omega
  clear hs
  clear hr hb hq hc hch hn2 hl64
  have h0 := h
  obtain ⟨pa, b, o, cap, rfl, g1, g2, g3, g4⟩ := h0
  have hcap : cap ≤ 9223372036854775807 := by unfold maxLen at g3; omega
  obtain rfl := g1 (by omega)
  have hrr := hR0.out
  rw [hn, Nat.add_sub_cancel] at hrr
  have hC0 := Lib.hid (g4 n r hrr)
  have hD0 := Lib.hid (g4 kb s hS0.out)
  rw [hn] at g2 h hck hbo hcr ⊢
  clear g4 hrr hR0 g1 hS0
  go_enter Try.func23, Try.ntmps23
  go_wp2_with (first
    | (go_at_call 49; refine (hck.out _ (h.below (by repeat (first | with_reducible exact Below.refl _ _ | with_reducible assumption | with_reducible refine Below.drew ?_ | with_reducible refine Below.setCell ?_ (by first | omega | (simp; omega) | simp) _ | with_reducible refine Below.alloc ?_ (by first | omega | (simp; omega) | simp) _ | with_reducible refine Below.trans ?_ (Below.mono (by with_reducible assumption) (by first | omega | (simp; omega) | simp)))))).mono ?_; rintro e w1 ⟨rfl, hb1⟩; have hB := heap_old hb1 (heap_alloc (X := (.cells #[.int .u8 0, .int .u8 0, .int .u8 0, .int .u8 0] 47)) (heap_new w (.cells #[.slice (some ⟨b, o, none⟩) (n + 1) cap, .bool left, .bool shot, .bool bat, .bool void] 43) rfl)); have hR := heap_old hb1 (heap_new (w.alloc (.cells #[.slice (some ⟨b, o, none⟩) (n + 1) cap, .bool left, .bool shot, .bool bat, .bool void] 43)) (.cells #[.int .u8 0, .int .u8 0, .int .u8 0, .int .u8 0] 47) (b := w.heap.size + 1) (by simp)); have hK := Below.next2 (Below.refl w.heap.size w) (Nat.le_refl _) hb1; clear hb1; (have b0 := cell_heap (o := 0) hB rfl; have b1 := cell_heap (o := 1) hB rfl; have b2 := cell_heap (o := 2) hB rfl; have b3 := cell_heap (o := 3) hB rfl; have b4 := cell_heap (o := 4) hB rfl); (have r0 := cell_heap (o := 0) hR rfl; have r1 := cell_heap (o := 1) hR rfl; have r2 := cell_heap (o := 2) hR rfl; have r3 := cell_heap (o := 3) hR rfl; have z0 := frozen_heap (o := 0) hR; have z1 := frozen_heap (o := 1) hR; have z2 := frozen_heap (o := 2) hR; have z3 := frozen_heap (o := 3) hR))
    | (go_at_call 25; have hwv := (Array.getElem?_eq_some_iff.1 hR).1; have hV := heap_new w1 (.cells #[.int .u8 0, .int .u8 2, .int .u8 0, .int .u8 3] 47) rfl; replace hB := heap_alloc (X := (.cells #[.int .u8 0, .int .u8 2, .int .u8 0, .int .u8 3] 47)) hB; replace hR := heap_alloc (X := (.cells #[.int .u8 0, .int .u8 2, .int .u8 0, .int .u8 3] 47)) hR; replace hK := hK.alloc hK.size (.cells #[.int .u8 0, .int .u8 2, .int .u8 0, .int .u8 3] 47); (have q0 := cell_heap (o := 0) hV rfl; have q1 := cell_heap (o := 1) hV rfl; have q2 := cell_heap (o := 2) hV rfl; have q3 := cell_heap (o := 3) hV rfl; have y0 := frozen_heap (o := 0) hV; have y1 := frozen_heap (o := 1) hV; have y2 := frozen_heap (o := 2) hV; have y3 := frozen_heap (o := 3) hV); refine (hbo.out _ (h.below hK)).mono ?_; rintro e w2 ⟨rfl, hb2⟩; replace hB := heap_old hb2 hB; replace hR := heap_old hb2 hR; replace hV := heap_old hb2 hV; replace hK := Below.next hK (Nat.le_refl _) hb2; clear hb2; (clear b0 b1 b2 b3 b4); (clear r0 r1 r2 r3 z0 z1 z2 z3); (clear q0 q1 q2 q3 y0 y1 y2 y3); (have b0 := cell_heap (o := 0) hB rfl; have b1 := cell_heap (o := 1) hB rfl; have b2 := cell_heap (o := 2) hB rfl; have b3 := cell_heap (o := 3) hB rfl; have b4 := cell_heap (o := 4) hB rfl); (have r0 := cell_heap (o := 0) hR rfl; have r1 := cell_heap (o := 1) hR rfl; have r2 := cell_heap (o := 2) hR rfl; have r3 := cell_heap (o := 3) hR rfl; have z0 := frozen_heap (o := 0) hR; have z1 := frozen_heap (o := 1) hR; have z2 := frozen_heap (o := 2) hR; have z3 := frozen_heap (o := 3) hR); (have q0 := cell_heap (o := 0) hV rfl; have q1 := cell_heap (o := 1) hV rfl; have q2 := cell_heap (o := 2) hV rfl; have q3 := cell_heap (o := 3) hV rfl; have y0 := frozen_heap (o := 0) hV; have y1 := frozen_heap (o := 1) hV; have y2 := frozen_heap (o := 2) hV; have y3 := frozen_heap (o := 3) hV)))
  have nVB : w1.heap.size ≠ w.heap.size := by omega
  have nVR : w1.heap.size ≠ w.heap.size + 1 := by omega
  have nBV : w.heap.size ≠ w1.heap.size := by omega
  have nRV : w.heap.size + 1 ≠ w1.heap.size := by omega
  have hle : w.heap.size ≤ w1.heap.size := by omega
  (clear b0 b1 b2 b3 b4)
  apply region_gen 9 [] [0, 1, 2, 3, 4, 5, 6, 7, 8] [9, 10]; (case hm => kernel_rfl); (case hS => rfl); (case hF => kernel_rfl); (case hB => kernel_rfl); (case hQ => exact fun _ _ _ _ _ h => h); (case f => (exact rfl)); (case hz => exact rfl); (case h => (intro LQ hLQ W1 hW1; have hK1 := Below.next hK (Nat.le_refl _) hW1; have hB1 := heap_old hW1 hB; obtain ⟨d0, d1, d2, d3, d4⟩ := SeenAt.below hD0.out hK1; have b0 := cell_heap (o := 0) hB1 rfl; have b1 := cell_heap (o := 1) hB1 rfl; have b2 := cell_heap (o := 2) hB1 rfl; simp only [pickO, List.drop_succ_cons, List.drop_zero, List.take_succ_cons, List.take_zero, List.cons_append, List.nil_append, List.append_nil, Act.put, List.setIfInBounds_toArray, List.set_cons_succ, List.set_cons_zero]; have hl := @Later.cell; (repeat (go_big_quiet_step (first | (go_at_call 61; exact Calls.later (hac1.out _)) | (go_at_call 60; exact Calls.later (hleg.out _))))); exact wpQuiet_nil hLQ)); (intro W2 hW2; simp only [pickO, List.drop_succ_cons, List.drop_zero, List.take_succ_cons, List.take_zero, List.cons_append, List.nil_append, List.append_nil, Act.put, List.setIfInBounds_toArray, List.set_cons_succ, List.set_cons_zero])
  replace hB := heap_old hW2 hB
  replace hR := heap_old hW2 hR
  replace hV := heap_old hW2 hV
  replace hK := Below.next hK (Nat.le_refl _) hW2
  (clear r0 r1 r2 r3 z0 z1 z2 z3)
  (clear q0 q1 q2 q3 y0 y1 y2 y3)
  (have b0 := cell_heap (o := 0) hB rfl; have b1 := cell_heap (o := 1) hB rfl; have b2 := cell_heap (o := 2) hB rfl; have b3 := cell_heap (o := 3) hB rfl; have b4 := cell_heap (o := 4) hB rfl)
  (have r0 := cell_heap (o := 0) hR rfl; have r1 := cell_heap (o := 1) hR rfl; have r2 := cell_heap (o := 2) hR rfl; have r3 := cell_heap (o := 3) hR rfl; have z0 := frozen_heap (o := 0) hR; have z1 := frozen_heap (o := 1) hR; have z2 := frozen_heap (o := 2) hR; have z3 := frozen_heap (o := 3) hR)
  (have q0 := cell_heap (o := 0) hV rfl; have q1 := cell_heap (o := 1) hV rfl; have q2 := cell_heap (o := 2) hV rfl; have q3 := cell_heap (o := 3) hV rfl; have y0 := frozen_heap (o := 0) hV; have y1 := frozen_heap (o := 1) hV; have y2 := frozen_heap (o := 2) hV; have y3 := frozen_heap (o := 3) hV)
  go_wp2_with fail
  replace hB := heap_set_other (g := w1.heap.size) (o := 1) (v := .int .u8 LEG) hB nBV
  replace hR := heap_set_other (g := w1.heap.size) (o := 1) (v := .int .u8 LEG) hR nRV
  replace hV := heap_set (o := 1) (v := .int .u8 LEG) hV
  simp only [List.setIfInBounds_toArray, List.set_cons_succ, List.set_cons_zero] at hV
  replace hK := Below.setCell hK hle (.int .u8 LEG) (p := ⟨w1.heap.size, 1, none⟩)
  (clear b0 b1 b2 b3 b4)
  (clear r0 r1 r2 r3 z0 z1 z2 z3)
  (clear q0 q1 q2 q3 y0 y1 y2 y3)
  (have b0 := cell_heap (o := 0) hB rfl; have b1 := cell_heap (o := 1) hB rfl; have b2 := cell_heap (o := 2) hB rfl; have b3 := cell_heap (o := 3) hB rfl; have b4 := cell_heap (o := 4) hB rfl)
  (have r0 := cell_heap (o := 0) hR rfl; have r1 := cell_heap (o := 1) hR rfl; have r2 := cell_heap (o := 2) hR rfl; have r3 := cell_heap (o := 3) hR rfl; have z0 := frozen_heap (o := 0) hR; have z1 := frozen_heap (o := 1) hR; have z2 := frozen_heap (o := 2) hR; have z3 := frozen_heap (o := 3) hR)
  (have q0 := cell_heap (o := 0) hV rfl; have q1 := cell_heap (o := 1) hV rfl; have q2 := cell_heap (o := 2) hV rfl; have q3 := cell_heap (o := 3) hV rfl; have y0 := frozen_heap (o := 0) hV; have y1 := frozen_heap (o := 1) hV; have y2 := frozen_heap (o := 2) hV; have y3 := frozen_heap (o := 3) hV)
  generalize World.setCell _ _ _ = wS at *
  (clear b0 b1 b2 b3 b4)
  apply region_gen 14 [] [0, 1, 2, 3, 4, 5, 6, 7, 8, 9, 10, 11, 12, 13] [14, 15]; (case hm => kernel_rfl); (case hS => rfl); (case hF => kernel_rfl); (case hB => kernel_rfl); (case hQ => exact fun _ _ _ _ _ h => h); (case f => (exact rfl)); (case hz => exact rfl); (case h => (intro LQ hLQ W1 hW1; have hK1 := Below.next hK (Nat.le_refl _) hW1; have hB1 := heap_old hW1 hB; obtain ⟨d0, d1, d2, d3, d4⟩ := SeenAt.below hC0.out hK1; have b0 := cell_heap (o := 0) hB1 rfl; have b1 := cell_heap (o := 1) hB1 rfl; have b2 := cell_heap (o := 2) hB1 rfl; simp only [pickO, List.drop_succ_cons, List.drop_zero, List.take_succ_cons, List.take_zero, List.cons_append, List.nil_append, List.append_nil, Act.put, List.setIfInBounds_toArray, List.set_cons_succ, List.set_cons_zero]; have hl := @Later.cell; (repeat (go_big_quiet_step (first | (go_at_call 61; exact Calls.later (hac2.out _)) | (go_at_call 62; exact Calls.later (himp.out _))))); exact wpQuiet_nil hLQ)); (intro W2 hW2; simp only [pickO, List.drop_succ_cons, List.drop_zero, List.take_succ_cons, List.take_zero, List.cons_append, List.nil_append, List.append_nil, Act.put, List.setIfInBounds_toArray, List.set_cons_succ, List.set_cons_zero])
  replace hB := heap_old hW2 hB
  replace hR := heap_old hW2 hR
  replace hV := heap_old hW2 hV
  replace hK := Below.next hK (Nat.le_refl _) hW2
  (clear r0 r1 r2 r3 z0 z1 z2 z3)
  (clear q0 q1 q2 q3 y0 y1 y2 y3)
  (have b0 := cell_heap (o := 0) hB rfl; have b1 := cell_heap (o := 1) hB rfl; have b2 := cell_heap (o := 2) hB rfl; have b3 := cell_heap (o := 3) hB rfl; have b4 := cell_heap (o := 4) hB rfl)
  (have r0 := cell_heap (o := 0) hR rfl; have r1 := cell_heap (o := 1) hR rfl; have r2 := cell_heap (o := 2) hR rfl; have r3 := cell_heap (o := 3) hR rfl; have z0 := frozen_heap (o := 0) hR; have z1 := frozen_heap (o := 1) hR; have z2 := frozen_heap (o := 2) hR; have z3 := frozen_heap (o := 3) hR)
  (have q0 := cell_heap (o := 0) hV rfl; have q1 := cell_heap (o := 1) hV rfl; have q2 := cell_heap (o := 2) hV rfl; have q3 := cell_heap (o := 3) hV rfl; have y0 := frozen_heap (o := 0) hV; have y1 := frozen_heap (o := 1) hV; have y2 := frozen_heap (o := 2) hV; have y3 := frozen_heap (o := 3) hV)
  go_wp2_with (first
    | (go_at_call 38; replace hB := heap_set_other (g := w1.heap.size) (o := 2) (v := .int .u8 LINE) hB nBV; replace hR := heap_set_other (g := w1.heap.size) (o := 2) (v := .int .u8 LINE) hR nRV; replace hV := heap_set (o := 2) (v := .int .u8 LINE) hV; simp only [List.setIfInBounds_toArray, List.set_cons_succ, List.set_cons_zero] at hV; replace hK := Below.setCell hK hle (.int .u8 LINE) (p := ⟨w1.heap.size, 2, none⟩); refine (hcr.out _ (h.below hK)).mono ?_; rintro e w5 ⟨rfl, hb5⟩; replace hB := heap_old hb5 hB; replace hR := heap_old hb5 hR; replace hV := heap_old hb5 hV; replace hK := Below.next hK (Nat.le_refl _) hb5; clear hb5; (clear b0 b1 b2 b3 b4); (clear r0 r1 r2 r3 z0 z1 z2 z3); (clear q0 q1 q2 q3 y0 y1 y2 y3); (have b0 := cell_heap (o := 0) hB rfl; have b1 := cell_heap (o := 1) hB rfl; have b2 := cell_heap (o := 2) hB rfl; have b3 := cell_heap (o := 3) hB rfl; have b4 := cell_heap (o := 4) hB rfl); (have r0 := cell_heap (o := 0) hR rfl; have r1 := cell_heap (o := 1) hR rfl; have r2 := cell_heap (o := 2) hR rfl; have r3 := cell_heap (o := 3) hR rfl; have z0 := frozen_heap (o := 0) hR; have z1 := frozen_heap (o := 1) hR; have z2 := frozen_heap (o := 2) hR; have z3 := frozen_heap (o := 3) hR); (have q0 := cell_heap (o := 0) hV rfl; have q1 := cell_heap (o := 1) hV rfl; have q2 := cell_heap (o := 2) hV rfl; have q3 := cell_heap (o := 3) hV rfl; have y0 := frozen_heap (o := 0) hV; have y1 := frozen_heap (o := 1) hV; have y2 := frozen_heap (o := 2) hV; have y3 := frozen_heap (o := 3) hV); have hC := heap_new w5 (.cells #[.int .i64 ta, .int .i64 tb, .int .i64 yl, .int .i64 yh, .int .i64 zl, .int .i64 zh] 70) rfl; replace hB := heap_alloc (X := (.cells #[.int .i64 ta, .int .i64 tb, .int .i64 yl, .int .i64 yh, .int .i64 zl, .int .i64 zh] 70)) hB; replace hR := heap_alloc (X := (.cells #[.int .i64 ta, .int .i64 tb, .int .i64 yl, .int .i64 yh, .int .i64 zl, .int .i64 zh] 70)) hR; replace hV := heap_alloc (X := (.cells #[.int .i64 ta, .int .i64 tb, .int .i64 yl, .int .i64 yh, .int .i64 zl, .int .i64 zh] 70)) hV; replace hK := hK.alloc hK.size (.cells #[.int .i64 ta, .int .i64 tb, .int .i64 yl, .int .i64 yh, .int .i64 zl, .int .i64 zh] 70); (clear b0 b1 b2 b3 b4); (clear r0 r1 r2 r3 z0 z1 z2 z3); (clear q0 q1 q2 q3 y0 y1 y2 y3); (have b0 := cell_heap (o := 0) hB rfl; have b1 := cell_heap (o := 1) hB rfl; have b2 := cell_heap (o := 2) hB rfl; have b3 := cell_heap (o := 3) hB rfl; have b4 := cell_heap (o := 4) hB rfl); (have r0 := cell_heap (o := 0) hR rfl; have r1 := cell_heap (o := 1) hR rfl; have r2 := cell_heap (o := 2) hR rfl; have r3 := cell_heap (o := 3) hR rfl; have z0 := frozen_heap (o := 0) hR; have z1 := frozen_heap (o := 1) hR; have z2 := frozen_heap (o := 2) hR; have z3 := frozen_heap (o := 3) hR); (have q0 := cell_heap (o := 0) hV rfl; have q1 := cell_heap (o := 1) hV rfl; have q2 := cell_heap (o := 2) hV rfl; have q3 := cell_heap (o := 3) hV rfl; have y0 := frozen_heap (o := 0) hV; have y1 := frozen_heap (o := 1) hV; have y2 := frozen_heap (o := 2) hV; have y3 := frozen_heap (o := 3) hV); (have c0 := cell_heap (o := 0) hC rfl; have c1 := cell_heap (o := 1) hC rfl; have c2 := cell_heap (o := 2) hC rfl; have c3 := cell_heap (o := 3) hC rfl; have c4 := cell_heap (o := 4) hC rfl; have c5 := cell_heap (o := 5) hC rfl); have hlt5 := (Array.getElem?_eq_some_iff.1 hC).1)
    | (go_at_call 63; refine (hsd.out _).mono ?_; rintro e w6 ⟨rfl, hb6⟩; replace hC := heap_old hb6 hC; replace hB := heap_old hb6 hB; replace hR := heap_old hb6 hR; replace hV := heap_old hb6 hV; replace hK := Below.next hK (Nat.le_refl _) hb6; clear hb6; (clear b0 b1 b2 b3 b4); (clear r0 r1 r2 r3 z0 z1 z2 z3); (clear q0 q1 q2 q3 y0 y1 y2 y3); (have b0 := cell_heap (o := 0) hB rfl; have b1 := cell_heap (o := 1) hB rfl; have b2 := cell_heap (o := 2) hB rfl; have b3 := cell_heap (o := 3) hB rfl; have b4 := cell_heap (o := 4) hB rfl); (have r0 := cell_heap (o := 0) hR rfl; have r1 := cell_heap (o := 1) hR rfl; have r2 := cell_heap (o := 2) hR rfl; have r3 := cell_heap (o := 3) hR rfl; have z0 := frozen_heap (o := 0) hR; have z1 := frozen_heap (o := 1) hR; have z2 := frozen_heap (o := 2) hR; have z3 := frozen_heap (o := 3) hR); (have q0 := cell_heap (o := 0) hV rfl; have q1 := cell_heap (o := 1) hV rfl; have q2 := cell_heap (o := 2) hV rfl; have q3 := cell_heap (o := 3) hV rfl; have y0 := frozen_heap (o := 0) hV; have y1 := frozen_heap (o := 1) hV; have y2 := frozen_heap (o := 2) hV; have y3 := frozen_heap (o := 3) hV); have hY := heap_new w6 (.cells #[.int .i64 sl, .int .i64 sh] 34) rfl; replace hC := heap_alloc (X := (.cells #[.int .i64 sl, .int .i64 sh] 34)) hC; replace hB := heap_alloc (X := (.cells #[.int .i64 sl, .int .i64 sh] 34)) hB; replace hR := heap_alloc (X := (.cells #[.int .i64 sl, .int .i64 sh] 34)) hR; replace hV := heap_alloc (X := (.cells #[.int .i64 sl, .int .i64 sh] 34)) hV; replace hK := hK.alloc hK.size (.cells #[.int .i64 sl, .int .i64 sh] 34); (clear b0 b1 b2 b3 b4); (clear r0 r1 r2 r3 z0 z1 z2 z3); (clear q0 q1 q2 q3 y0 y1 y2 y3); (have b0 := cell_heap (o := 0) hB rfl; have b1 := cell_heap (o := 1) hB rfl; have b2 := cell_heap (o := 2) hB rfl; have b3 := cell_heap (o := 3) hB rfl; have b4 := cell_heap (o := 4) hB rfl); (have r0 := cell_heap (o := 0) hR rfl; have r1 := cell_heap (o := 1) hR rfl; have r2 := cell_heap (o := 2) hR rfl; have r3 := cell_heap (o := 3) hR rfl; have z0 := frozen_heap (o := 0) hR; have z1 := frozen_heap (o := 1) hR; have z2 := frozen_heap (o := 2) hR; have z3 := frozen_heap (o := 3) hR); (have q0 := cell_heap (o := 0) hV rfl; have q1 := cell_heap (o := 1) hV rfl; have q2 := cell_heap (o := 2) hV rfl; have q3 := cell_heap (o := 3) hV rfl; have y0 := frozen_heap (o := 0) hV; have y1 := frozen_heap (o := 1) hV; have y2 := frozen_heap (o := 2) hV; have y3 := frozen_heap (o := 3) hV); clear c0 c1 c2 c3 c4 c5; (have c0 := cell_heap (o := 0) hC rfl; have c1 := cell_heap (o := 1) hC rfl; have c2 := cell_heap (o := 2) hC rfl; have c3 := cell_heap (o := 3) hC rfl; have c4 := cell_heap (o := 4) hC rfl; have c5 := cell_heap (o := 5) hC rfl))
    | (go_at_call 64; refine (hwk.out _).mono ?_; rintro e w7 ⟨rfl, hb7⟩; replace hB := heap_old hb7 hB; replace hR := heap_old hb7 hR; replace hV := heap_old hb7 hV; replace hK := Below.next hK (Nat.le_refl _) hb7; clear hb7; (clear b0 b1 b2 b3 b4); (clear r0 r1 r2 r3 z0 z1 z2 z3); (clear q0 q1 q2 q3 y0 y1 y2 y3); (have b0 := cell_heap (o := 0) hB rfl; have b1 := cell_heap (o := 1) hB rfl; have b2 := cell_heap (o := 2) hB rfl; have b3 := cell_heap (o := 3) hB rfl; have b4 := cell_heap (o := 4) hB rfl); (have r0 := cell_heap (o := 0) hR rfl; have r1 := cell_heap (o := 1) hR rfl; have r2 := cell_heap (o := 2) hR rfl; have r3 := cell_heap (o := 3) hR rfl; have z0 := frozen_heap (o := 0) hR; have z1 := frozen_heap (o := 1) hR; have z2 := frozen_heap (o := 2) hR; have z3 := frozen_heap (o := 3) hR); (have q0 := cell_heap (o := 0) hV rfl; have q1 := cell_heap (o := 1) hV rfl; have q2 := cell_heap (o := 2) hV rfl; have q3 := cell_heap (o := 3) hV rfl; have y0 := frozen_heap (o := 0) hV; have y1 := frozen_heap (o := 1) hV; have y2 := frozen_heap (o := 2) hV; have y3 := frozen_heap (o := 3) hV))
    | (go_at_call 65; replace hB := heap_set_other (g := w1.heap.size) (o := 3) (v := .int .u8 WKT) hB nBV; replace hR := heap_set_other (g := w1.heap.size) (o := 3) (v := .int .u8 WKT) hR nRV; replace hV := heap_set (o := 3) (v := .int .u8 WKT) hV; simp only [List.setIfInBounds_toArray, List.set_cons_succ, List.set_cons_zero] at hV; replace hK := Below.setCell hK hle (.int .u8 WKT) (p := ⟨w1.heap.size, 3, none⟩); refine (hru.out _).mono ?_; rintro e w9 ⟨rfl, rfl⟩; (clear b0 b1 b2 b3 b4); (clear r0 r1 r2 r3 z0 z1 z2 z3); (clear q0 q1 q2 q3 y0 y1 y2 y3); (have b0 := cell_heap (o := 0) hB rfl; have b1 := cell_heap (o := 1) hB rfl; have b2 := cell_heap (o := 2) hB rfl; have b3 := cell_heap (o := 3) hB rfl; have b4 := cell_heap (o := 4) hB rfl); (have r0 := cell_heap (o := 0) hR rfl; have r1 := cell_heap (o := 1) hR rfl; have r2 := cell_heap (o := 2) hR rfl; have r3 := cell_heap (o := 3) hR rfl; have z0 := frozen_heap (o := 0) hR; have z1 := frozen_heap (o := 1) hR; have z2 := frozen_heap (o := 2) hR; have z3 := frozen_heap (o := 3) hR); (have q0 := cell_heap (o := 0) hV rfl; have q1 := cell_heap (o := 1) hV rfl; have q2 := cell_heap (o := 2) hV rfl; have q3 := cell_heap (o := 3) hV rfl; have y0 := frozen_heap (o := 0) hV; have y1 := frozen_heap (o := 1) hV; have y2 := frozen_heap (o := 2) hV; have y3 := frozen_heap (o := 3) hV)))
  replace hR := heap_set_other (g := w1.heap.size) (o := 0) (v := .int .u8 CALL) hR nRV
  replace hV := heap_set (o := 0) (v := .int .u8 CALL) hV
  simp only [List.setIfInBounds_toArray, List.set_cons_succ, List.set_cons_zero] at hV
  replace hK := Below.setCell hK hle (.int .u8 CALL) (p := ⟨w1.heap.size, 0, none⟩)
  have hE := heap_set (o := 3) (v := .int .u8 WKT) (heap_set (o := 2) (v := .int .u8 LINE) (heap_set (o := 1) (v := .int .u8 LEG) (heap_set (o := 0) (v := .int .u8 CALL) hR)))
  simp only [List.setIfInBounds_toArray, List.set_cons_succ, List.set_cons_zero] at hE
  have k0 := cell_heap (o := 0) hE rfl
  have k1 := cell_heap (o := 1) hE rfl
  have k2 := cell_heap (o := 2) hE rfl
  have k3 := cell_heap (o := 3) hE rfl
  refine bodyPost_ret (v := .tuple #[.agg #[.int .u8 CALL, .int .u8 LEG, .int .u8 LINE, .int .u8 WKT], .int .i64 0]) (by simp only [results, Try.results23]; go_simp) rfl ⟨rfl, ?_⟩
  exact Below.setCell (Below.setCell (Below.setCell (Below.setCell hK (Nat.le_succ _) _) (Nat.le_succ _) _) (Nat.le_succ _) _) (Nat.le_succ _) _
theorem decide_any (v : Value) (l : List SN) (left shot bat void : Bool) (w : World) (h : Seens w v l)  : Calls Try.prog 23 #[.agg #[v, .bool left, .bool shot, .bool bat, .bool void]] w fun e w' => e = .returned (decV l left shot bat void) ∧ Below w.heap.size w w' := by
  by_cases hb : behE l = 0
  · by_cases hq : bncK l = 0
    · by_cases hc : crsE l = 0
      · exact decide_nc v l left shot bat void w h hb hq hc
      · exact decide_nm v l left shot bat void w h hb hq hc
    · by_cases hc : crsE l = 0
      · exact decide_bc v l left shot bat void w h hb hq hc
      · exact decide_bm v l left shot bat void w h hb hq hc
  · exact decide_bad v l left shot bat void w h hb
end Go.Proofs.Ytmdledlbkdcmnaa
