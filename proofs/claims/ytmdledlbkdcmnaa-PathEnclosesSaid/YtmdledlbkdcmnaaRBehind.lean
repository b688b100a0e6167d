/-
  Contracts of the reference's Bounce and Behind.
  Conditions: none.
-/
import Derived.Test.YtmdledlbkdcmnaaBehind
namespace Go.Proofs.Ytmdledlbkdcmnaa
open Go.RowKit
theorem own_empty5 {w : World} {base g : Nat} {t : TypeId} (hg : base ≤ g) (h : w.heap[g]? = some (.cells #[] t (0, 0))) : w.ownsRow base t 5 (.slice (some ⟨g, 0, none⟩) 0 0) 0 [] :=
  ⟨rfl, .inr ⟨g, 0, #[], rfl, hg, h, Nat.le_refl _, by unfold maxLen; omega, rfl, rfl⟩⟩
theorem seens_empty {w : World} {p : Option Addr} : Seens w (.slice p 0 0) [] := ⟨p, 0, 0, 0, rfl, fun h => by simp at h, by simp, by omega, fun i x h => by simp at h⟩
set_option maxRecDepth 100000 in
set_option maxHeartbeats 4000000 in
theorem rbounce_any (v : Value) (l : List SN) (w : World) (h : Seens w v l) : Calls Try.prog 89 #[v] w fun e w' => IsBnc (bncK l) e ∧ Below w.heap.size w w' := by
  have h0 := h
  obtain ⟨pa, b, o, cap, rfl, h1, h2, h3, h4⟩ := h
  have hcap : cap ≤ 9223372036854775807 := by unfold maxLen at h3; omega
  rcases Nat.eq_zero_or_pos l.length with hz | hp0
  · obtain rfl : l = [] := List.eq_nil_of_length_eq_zero hz
    replace h0 : Seens w (.slice pa 0 cap) [] := h0
    have hb0 : bncK [] = 0 := by decide
    have hc0 : (chkE [] != 0) = false := by decide
    clear hz h4 h1 h2
    rw [hb0]
    go_enter Try.func89, Try.ntmps89
    go_wp2_with (go_at_call 96; refine (rcheck_any _ _ _ (h0.below (by repeat (first | with_reducible exact Below.refl _ _ | with_reducible assumption | with_reducible refine Below.drew ?_ | with_reducible refine Below.setCell ?_ (by first | omega | (simp; omega) | simp) _ | with_reducible refine Below.alloc ?_ (by first | omega | (simp; omega) | simp) _ | with_reducible refine Below.trans ?_ (Below.mono (by with_reducible assumption) (by first | omega | (simp; omega) | simp)))))).mono ?_; rintro e w1 ⟨⟨k0, rfl⟩, hb1⟩)
    go_ret2
    exact ret_bnc rfl hb1
  obtain rfl := h1 hp0
  clear h1
  by_cases hc : chkE l = 0
  · have hl64 := chkE_len hc
    have hC := Lib.hid hc
    have hc' : (chkE l != 0) = false := by simp [hc]
    have hnz : ((l.length : Int) == 0) = false := by rw [beq_eq_false_iff_ne]; omega
    clear hc
    go_enter Try.func89, Try.ntmps89
    go_wp2_with (go_at_call 96; refine (rcheck_any _ _ _ (h0.below (by repeat (first | with_reducible exact Below.refl _ _ | with_reducible assumption | with_reducible refine Below.drew ?_ | with_reducible refine Below.setCell ?_ (by first | omega | (simp; omega) | simp) _ | with_reducible refine Below.alloc ?_ (by first | omega | (simp; omega) | simp) _ | with_reducible refine Below.trans ?_ (Below.mono (by with_reducible assumption) (by first | omega | (simp; omega) | simp)))))).mono ?_; rintro e w1 ⟨⟨k0, rfl⟩, hb1⟩)
    go_loopw [6, 23] (fun y x wr => ∃ i : Nat, i ≤ l.length ∧ x = .int .i64 i ∧ y = .int .i64 (minAt l i : Nat) ∧ Below w.heap.size w wr) (fun _ x _ => l.length - (intOf x).toNat)
    case atStart => exact ⟨0, by omega, rfl, rfl, hb1⟩
    case round =>
      obtain ⟨i, hi, rfl, rfl, hb0⟩ := hrel
      rcases Nat.lt_or_ge i l.length with hlt | hge
      · obtain ⟨s, hs⟩ : ∃ s, l[i]? = some s := ⟨_, List.getElem?_eq_getElem hlt⟩
        obtain ⟨c0, c1, c2, c3, c4⟩ := (h4 i s hs).below hb0
        have hml := minAt_lt (l := l) i (by omega) (by omega)
        obtain ⟨r, hr⟩ : ∃ r, l[minAt l i]? = some r := ⟨_, List.getElem?_eq_getElem hml⟩
        have hM := Lib.hid (minAt_next hs hr)
        obtain ⟨_, _, _, d3, _⟩ := (h4 _ r hr).below hb0
        have hsz := hb0.size
        have hn : l.length - (i + 1) < l.length - i := by omega
        clear hs hr
        generalize minAt l i = m at *
        go_wp2_with fail
        have y0 : (wr.alloc (.cells #[.int .i64 s.1, .int .i64 s.2.1, .int .i64 s.2.2.1, .int .i64 s.2.2.2.1, .int .i64 s.2.2.2.2] 38)).cell? ⟨wr.heap.size, 3, none⟩ = some (.int .i64 s.2.2.2.1) := by simp [go_sem]
        have y1 := (cell_alloc_old wr (.cells #[.int .i64 s.1, .int .i64 s.2.1, .int .i64 s.2.2.1, .int .i64 s.2.2.2.1, .int .i64 s.2.2.2.2] 38) b (o + m * 5 + 3) (by simp [d3])).trans d3
        have hl := @Later.cell
        refine region_later (by kernel_rfl) (by kernel_rfl) ?_; (repeat (go_big_quiet_step (fail))); refine wpQuiet_nil ?_; rintro _ ⟨x, rfl⟩; obtain ⟨w', hb⟩ := x; (try clear hc hf); (try clear hcM hfM); (try clear hcN hfN); (first | ((first | replace hB := Below.next hB (Nat.le_refl _) hb | replace hB := Below.next1 hB (Nat.le_refl _) hb | replace hB := Below.next2 hB (Nat.le_refl _) hb); (first | replace hM := Below.next hM (Nat.le_refl _) hb | replace hM := Below.next1 hM (Nat.le_refl _) hb | replace hM := Below.next2 hM (Nat.le_refl _) hb); (first | replace hN := Below.next hN (Nat.le_refl _) hb | replace hN := Below.next1 hN (Nat.le_refl _) hb | replace hN := Below.next2 hN (Nat.le_refl _) hb)) | ((first | replace hB := Below.next hB (Nat.le_refl _) hb | replace hB := Below.next1 hB (Nat.le_refl _) hb | replace hB := Below.next2 hB (Nat.le_refl _) hb); (first | replace hM := Below.next hM (Nat.le_refl _) hb | replace hM := Below.next1 hM (Nat.le_refl _) hb | replace hM := Below.next2 hM (Nat.le_refl _) hb); have hN := Below.mid hb) | ((first | replace hB := Below.next hB (Nat.le_refl _) hb | replace hB := Below.next1 hB (Nat.le_refl _) hb | replace hB := Below.next2 hB (Nat.le_refl _) hb); (first | replace hM := Below.next hM (Nat.le_refl _) hb | replace hM := Below.next1 hM (Nat.le_refl _) hb | replace hM := Below.next2 hM (Nat.le_refl _) hb)) | ((first | replace hB := Below.next hB (Nat.le_refl _) hb | replace hB := Below.next1 hB (Nat.le_refl _) hb | replace hB := Below.next2 hB (Nat.le_refl _) hb); have hM := Below.mid hb) | (first | replace hB := Below.next hB (Nat.le_refl _) hb | replace hB := Below.next1 hB (Nat.le_refl _) hb | replace hB := Below.next2 hB (Nat.le_refl _) hb) | have hB := hb); obtain ⟨hc, hf, hz⟩ := after hB; (try (have hq := after hM; obtain ⟨hcM, hfM, hzM⟩ := hq)); (try (have hq := after hN; obtain ⟨hcN, hfN, hzN⟩ := hq)); have hs := hb.size; (try simp at hz); (try simp at hs)
        have hK := Below.next1 hb0 (Nat.le_refl _) hb
        go_wp2_with fail
        · exact ⟨⟨i + 1, hlt, by simp, by rw [hM.out, if_pos ‹_›], hK⟩, by simpa [intOf] using hn⟩
        · exact ⟨⟨i + 1, hlt, by simp, by rw [hM.out, if_neg (by omega)], hK⟩, by simpa [intOf] using hn⟩
      · obtain rfl : i = l.length := by omega
        · have hpos := hp0
          have hml := minAt_lt (l := l) l.length (Nat.le_refl _) hpos
          obtain ⟨r, hr⟩ : ∃ r, l[minAt l l.length]? = some r := ⟨_, List.getElem?_eq_getElem hml⟩
          obtain ⟨_, _, _, d3, _⟩ := (h4 _ r hr).below hb0
          have hh : heightAt l (minAt l l.length) = r.2.2.2.1 := by unfold heightAt; rw [hr]
          have hH := Lib.hid hh
          clear hr hh
          generalize hmm : minAt l l.length = m at *
          have hm := Lib.hid hmm
          clear hmm hge hi
          go_wp2_with fail
          all_goals
            go_ret2
            first
              | exact ret_bnc (by rw [bncK_zero hm.out (.inl (by omega))]; rfl) hb0
              | exact ret_bnc (by rw [bncK_zero hm.out (.inr (.inl (by omega)))]; rfl) hb0
              | (have h3 : 1000 < heightAt l m := by rw [hH.out]; grind
                 exact ret_bnc (by rw [bncK_zero hm.out (.inr (.inr h3))]; rfl) hb0)
              | exact ret_bnc (by rw [bncK_some hC.out hm.out (by omega) (by omega) (by rw [hH.out]; omega)]) hb0
  · have e1 : bncK l = 0 := by unfold bncK; rw [if_neg hc]
    have hc' : (chkE l != 0) = true := by simp [hc]
    rw [e1]
    clear hc e1
    go_enter Try.func89, Try.ntmps89
    go_wp2_with (go_at_call 96; refine (rcheck_any _ _ _ (h0.below (by repeat (first | with_reducible exact Below.refl _ _ | with_reducible assumption | with_reducible refine Below.drew ?_ | with_reducible refine Below.setCell ?_ (by first | omega | (simp; omega) | simp) _ | with_reducible refine Below.alloc ?_ (by first | omega | (simp; omega) | simp) _ | with_reducible refine Below.trans ?_ (Below.mono (by with_reducible assumption) (by first | omega | (simp; omega) | simp)))))).mono ?_; rintro e w1 ⟨⟨k0, rfl⟩, hb1⟩)
    go_ret2
    exact ret_bnc rfl hb1
set_option maxRecDepth 100000 in
set_option maxHeartbeats 4000000 in
theorem rbehind_any (v : Value) (l : List SN) (w : World) (h : Seens w v l) : Calls Try.prog 97 #[v] w fun e w' => ∃ u, e = .returned u ∧ Seens w' u (bhdL l) ∧ Below w.heap.size w w' := by
  obtain ⟨i0, hi0, hz0, hz1, hz2⟩ := info_parts (P := Try.prog) (e := 38) (z := zeroS) (size := 5) (bytes := 40) (by kernel_rfl)
  have h0 := h
  obtain ⟨pa, b, o, cap, rfl, h1, h2, h3, h4⟩ := h
  have hcap : cap ≤ 9223372036854775807 := by unfold maxLen at h3; omega
  have hbk := bncK_le l
  by_cases hc : chkE l = 0
  · have hl64 := chkE_len hc
    have hC := Lib.hid hc
    have hc' : (chkE l != 0) = false := by simp [hc]
    clear hc
    rcases Nat.eq_zero_or_pos l.length with hz | hpos
    · have hb0 : bncK l = 0 := by omega
      rw [bhdL_nil hz]
      obtain rfl : l = [] := List.eq_nil_of_length_eq_zero hz
      replace h0 : Seens w (.slice pa 0 cap) [] := h0
      clear hz hl64 h4 h1 h2 hbk
      cases pa with
      | none =>
        go_enter Try.func97, Try.ntmps97
        go_wp2_with (first | (go_at_call 96; refine (rcheck_any _ _ _ (h0.below (by repeat (first | with_reducible exact Below.refl _ _ | with_reducible assumption | with_reducible refine Below.drew ?_ | with_reducible refine Below.setCell ?_ (by first | omega | (simp; omega) | simp) _ | with_reducible refine Below.alloc ?_ (by first | omega | (simp; omega) | simp) _ | with_reducible refine Below.trans ?_ (Below.mono (by with_reducible assumption) (by first | omega | (simp; omega) | simp)))))).mono ?_; rintro e w1 ⟨⟨k0, rfl⟩, hb1⟩) | (go_at_call 89; refine (rbounce_any _ _ _ (h0.below hb1)).mono ?_; rintro e w2 ⟨⟨q, rfl⟩, hb2⟩; rw [hb0]; have hK := Below.next hb1 (Nat.le_refl _) hb2))
        go_ret
        exact ⟨_, rfl, seens_empty, hK.alloc hK.size _⟩
      | some a =>
        go_enter Try.func97, Try.ntmps97
        go_wp2_with (first | (go_at_call 96; refine (rcheck_any _ _ _ (h0.below (by repeat (first | with_reducible exact Below.refl _ _ | with_reducible assumption | with_reducible refine Below.drew ?_ | with_reducible refine Below.setCell ?_ (by first | omega | (simp; omega) | simp) _ | with_reducible refine Below.alloc ?_ (by first | omega | (simp; omega) | simp) _ | with_reducible refine Below.trans ?_ (Below.mono (by with_reducible assumption) (by first | omega | (simp; omega) | simp)))))).mono ?_; rintro e w1 ⟨⟨k0, rfl⟩, hb1⟩) | (go_at_call 89; refine (rbounce_any _ _ _ (h0.below hb1)).mono ?_; rintro e w2 ⟨⟨q, rfl⟩, hb2⟩; rw [hb0]; have hK := Below.next hb1 (Nat.le_refl _) hb2))
        go_ret
        exact ⟨_, rfl, seens_empty, hK.alloc hK.size _⟩
    · obtain rfl := h1 hpos
      have hlt := bncK_lt hpos
      have hne : ¬cap = bncK l := by omega
      have hlen0 : ¬l.length - bncK l = 0 := by omega
      have hbl : (bhdL l).length = l.length - bncK l := by unfold bhdL; rw [if_pos hC.out, List.length_drop]
      have hat : ∀ i s, (bhdL l)[i]? = some s → SeenAt w b (o + bncK l * 5) i s := by
        intro i s hs
        unfold bhdL at hs
        rw [if_pos hC.out, List.getElem?_drop] at hs
        have := h4 _ s hs
        have e : o + (bncK l + i) * 5 = o + bncK l * 5 + i * 5 := by omega
        unfold SeenAt at this ⊢
        rwa [e] at this
      have hL := Lib.hid hat
      clear hat
      generalize hk : bncK l = k at *
      go_enter Try.func97, Try.ntmps97
      go_wp2_with (first
        | (go_at_call 96; refine (rcheck_any _ _ _ (h0.below (by repeat (first | with_reducible exact Below.refl _ _ | with_reducible assumption | with_reducible refine Below.drew ?_ | with_reducible refine Below.setCell ?_ (by first | omega | (simp; omega) | simp) _ | with_reducible refine Below.alloc ?_ (by first | omega | (simp; omega) | simp) _ | with_reducible refine Below.trans ?_ (Below.mono (by with_reducible assumption) (by first | omega | (simp; omega) | simp)))))).mono ?_; rintro e w1 ⟨⟨k0, rfl⟩, hb1⟩)
        | (go_at_call 89; refine (rbounce_any _ _ _ (h0.below hb1)).mono ?_; rintro e w2 ⟨⟨q, rfl⟩, hb2⟩; rw [hk]; have hK := Below.next hb1 (Nat.le_refl _) hb2; have hKA : Below w.heap.size w (w2.alloc (.cells #[] 38)) := hK.alloc hK.size _; have hN := seens_cells (bhdL l) (w2.alloc (.cells #[] 38)) b (o + k * 5) (fun i s hs => (hL.out i s hs).below hKA); have hNH := Lib.hid hN; clear hN)
        | (at_builtin; refine wpList_append_own _ rfl _ _ 22 rfl w.heap.size 38 i0 zeroS 5 40 Try.underlying22 hi0 hz0 hz1 hz2 rfl (by decide) (.slice (some ⟨w2.heap.size, 0, none⟩) 0 0) 0 [] rfl (own_empty5 hK.size (heap_new w2 (.cells #[] 38) rfl)) ⟨b, o + k * 5, none⟩ (l.length - k) (cap - k) ((bhdL l).flatMap cells5) (by rfl) (by rw [cells5_len, hbl]) (by intro j u hu; rw [Addr.add_lit]; exact hNH.out j u hu) (cells5_one _) (by unfold maxLen; omega) (by omega) hKA.size ?_; intro c w3 hc3 hg3 hnil3))
      go_ret
      rw [Nat.zero_add, List.nil_append, ← hbl] at hc3
      exact ⟨c, rfl, seens_own hc3, hKA.grown hg3 hKA.size (fun q hq => by simp [Value.ownBlock] at hq; have := hK.size; omega)⟩
  · have e1 : bhdL l = [] := by unfold bhdL; rw [if_neg hc]
    have hc' : (chkE l != 0) = true := by simp [hc]
    rw [e1]
    clear hc e1
    go_enter Try.func97, Try.ntmps97
    go_wp2_with (go_at_call 96; refine (rcheck_any _ _ _ (h0.below (by repeat (first | with_reducible exact Below.refl _ _ | with_reducible assumption | with_reducible refine Below.drew ?_ | with_reducible refine Below.setCell ?_ (by first | omega | (simp; omega) | simp) _ | with_reducible refine Below.alloc ?_ (by first | omega | (simp; omega) | simp) _ | with_reducible refine Below.trans ?_ (Below.mono (by with_reducible assumption) (by first | omega | (simp; omega) | simp)))))).mono ?_; rintro e w1 ⟨⟨k0, rfl⟩, hb1⟩)
    go_ret
    exact ⟨_, rfl, seens_nil _, hb1⟩
end Go.Proofs.Ytmdledlbkdcmnaa
