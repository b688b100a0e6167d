/-
  Contracts and laws, merged: Seen Behind RBehind Own3 Held Ceil Raise.
  Conditions: none.
-/
import Derived.Test.YtmdledlbkdcmnaaM1
import Derived.Maps.AppendAt
set_option linter.unusedSimpArgs false
set_option linter.unusedVariables false
/-
  Slices that hold observations; contracts of Check, Bounce and Behind, ours and the reference's.
  Conditions: none.
-/
namespace Go.Proofs.Ytmdledlbkdcmnaa
open Go.RowKit
/-- The five numbers of the i-th observation lie from the cell o + i * 5 on. -/
def SeenAt (w : World) (b o i : Nat) (s : SN) : Prop :=
  w.cell? ⟨b, o + i * 5, none⟩ = some (.int .i64 s.1) ∧ w.cell? ⟨b, o + i * 5 + 1, none⟩ = some (.int .i64 s.2.1) ∧ w.cell? ⟨b, o + i * 5 + 2, none⟩ = some (.int .i64 s.2.2.1) ∧ w.cell? ⟨b, o + i * 5 + 3, none⟩ = some (.int .i64 s.2.2.2.1) ∧ w.cell? ⟨b, o + i * 5 + 4, none⟩ = some (.int .i64 s.2.2.2.2)
theorem SeenAt.below {w w' : World} {b o i : Nat} {s : SN} (h : SeenAt w b o i s) (hb : Below w.heap.size w w') : SeenAt w' b o i s := by
  obtain ⟨c0, c1, c2, c3, c4⟩ := h
  have hx := (after hb).1
  exact ⟨(hx _ _ (by simp [c0])).trans c0, (hx _ _ (by simp [c1])).trans c1, (hx _ _ (by simp [c2])).trans c2, (hx _ _ (by simp [c3])).trans c3, (hx _ _ (by simp [c4])).trans c4⟩
/-- The slice v holds the observations l. -/
def Seens (w : World) (v : Value) (l : List SN) : Prop :=
  ∃ (pa : Option Addr) (b o cap : Nat), v = .slice pa l.length cap ∧ (0 < l.length → pa = some ⟨b, o, none⟩) ∧ l.length ≤ cap ∧ cap ≤ maxLen ∧ ∀ i s, l[i]? = some s → SeenAt w b o i s
theorem Seens.below {w w' : World} {v : Value} {l : List SN} (h : Seens w v l) (hb : Below w.heap.size w w') : Seens w' v l := by
  obtain ⟨pa, b, o, cap, rfl, h1, h2, h3, h4⟩ := h
  exact ⟨pa, b, o, cap, rfl, h1, h2, h3, fun i s hs => (h4 i s hs).below hb⟩
def cells5 (s : SN) : List Value := [.int .i64 s.1, .int .i64 s.2.1, .int .i64 s.2.2.1, .int .i64 s.2.2.2.1, .int .i64 s.2.2.2.2]
theorem cells5_len (L : List SN) : (L.flatMap cells5).length = L.length * 5 := by
  induction L with
  | nil => rfl
  | cons d L ih => simp only [List.flatMap_cons, List.length_append, ih, List.length_cons]; simp [cells5]; omega
theorem cells5_at : ∀ (L : List SN) (i : Nat) (s : SN), L[i]? = some s → (L.flatMap cells5)[i * 5]? = some (.int .i64 s.1) ∧ (L.flatMap cells5)[i * 5 + 1]? = some (.int .i64 s.2.1) ∧ (L.flatMap cells5)[i * 5 + 2]? = some (.int .i64 s.2.2.1) ∧ (L.flatMap cells5)[i * 5 + 3]? = some (.int .i64 s.2.2.2.1) ∧ (L.flatMap cells5)[i * 5 + 4]? = some (.int .i64 s.2.2.2.2)
  | [], i, p, h => by simp at h
  | d :: L, 0, p, h => by
    obtain rfl : d = p := by simpa using h
    simp [cells5]
  | d :: L, i + 1, p, h => by
    obtain ⟨a, b, c, e, f⟩ := cells5_at L i p (by simpa using h)
    have e0 : (i + 1) * 5 = i * 5 + 5 := by omega
    have e1 : (i + 1) * 5 + 1 = (i * 5 + 1) + 5 := by omega
    have e2 : (i + 1) * 5 + 2 = (i * 5 + 2) + 5 := by omega
    have e3 : (i + 1) * 5 + 3 = (i * 5 + 3) + 5 := by omega
    have e4 : (i + 1) * 5 + 4 = (i * 5 + 4) + 5 := by omega
    rw [e1, e2, e3, e4, e0]
    exact ⟨by simpa [List.flatMap_cons, cells5] using a, by simpa [List.flatMap_cons, cells5] using b, by simpa [List.flatMap_cons, cells5] using c, by simpa [List.flatMap_cons, cells5] using e, by simpa [List.flatMap_cons, cells5] using f⟩
theorem cells5_one (L : List SN) : ∀ u ∈ L.flatMap cells5, u.oneCell' = true := by
  intro u hu
  simp only [List.mem_flatMap, cells5] at hu
  obtain ⟨s, _, hs⟩ := hu
  simp only [List.mem_cons, List.not_mem_nil, or_false] at hs
  rcases hs with rfl | rfl | rfl | rfl | rfl <;> rfl
/-- The cells of the observations, one behind the other. -/
theorem seens_cells : ∀ (L : List SN) (w : World) (b o : Nat), (∀ i s, L[i]? = some s → SeenAt w b o i s) → ∀ j u, (L.flatMap cells5)[j]? = some u → w.cell? ⟨b, o + j, none⟩ = some u
  | [], _, _, _, _, j, u, h => by simp at h
  | d :: L, w, b, o, hs, j, u, h => by
    rcases Nat.lt_or_ge j 5 with hj | hj
    · obtain ⟨c0, c1, c2, c3, c4⟩ := hs 0 d rfl
      rw [List.flatMap_cons, List.getElem?_append_left (by simpa [cells5] using hj)] at h
      match j, hj, h with
      | 0, _, h => obtain rfl := Option.some.inj h; simpa using c0
      | 1, _, h => obtain rfl := Option.some.inj h; simpa using c1
      | 2, _, h => obtain rfl := Option.some.inj h; simpa using c2
      | 3, _, h => obtain rfl := Option.some.inj h; simpa using c3
      | 4, _, h => obtain rfl := Option.some.inj h; simpa using c4
    · rw [List.flatMap_cons, List.getElem?_append_right (by simpa [cells5] using hj)] at h
      have ih := seens_cells L w b (o + 5) (fun i s hi => by
        have := hs (i + 1) s (by simpa using hi)
        have e : o + (i + 1) * 5 = o + 5 + i * 5 := by omega
        unfold SeenAt at this ⊢
        rw [e] at this
        exact this) (j - 5) u (by simpa [cells5] using h)
      rw [← ih]
      congr 2
      omega
/-- The world holds the observations in the slice v, made since. -/
theorem seens_own {t : TypeId} {base : Nat} {w : World} {v : Value} {L : List SN} (h : w.ownsRow base t 5 v L.length (L.flatMap cells5)) : Seens w v L := by
  rcases h.2 with ⟨rfl, h0⟩ | ⟨g, cap, cur, rfl, hg, hh, h1, h2, h3, h4⟩
  · refine ⟨none, 0, 0, 0, by rw [h0], fun hp => by omega, by omega, by omega, fun i p hp => ?_⟩
    have := (List.getElem?_eq_some_iff.1 hp).1
    omega
  · refine ⟨_, g, 0, cap, rfl, fun _ => rfl, h1, h2, fun i p hp => ?_⟩
    have hi := (List.getElem?_eq_some_iff.1 hp).1
    obtain ⟨a, b, c, d, e⟩ := cells5_at L i p hp
    have e0 := World.ownsRow.cellAt h (i * 5) (by omega)
    have e1 := World.ownsRow.cellAt h (i * 5 + 1) (by omega)
    have e2 := World.ownsRow.cellAt h (i * 5 + 2) (by omega)
    have e3 := World.ownsRow.cellAt h (i * 5 + 3) (by omega)
    have e4 := World.ownsRow.cellAt h (i * 5 + 4) (by omega)
    unfold SeenAt
    rw [Nat.zero_add, e0, e1, e2, e3, e4]
    exact ⟨a, b, c, d, e⟩
theorem from_any (n lo hi : Int) (w : World) : Calls Try.prog 105 #[.int .i64 n, .int .i64 lo, .int .i64 hi] w fun e w' => e = .returned (.bool (inR n lo hi)) ∧ w = w' := by
  go_enter Try.func105, Try.ntmps105
  go_wp2_with fail
  all_goals (go_ret; refine ⟨ret_bool ?_, rfl⟩; simp only [inR]; grind)
theorem between_any (n lo hi : Int) (w : World) : Calls Try.prog 117 #[.int .i64 n, .int .i64 lo, .int .i64 hi] w fun e w' => e = .returned (.bool (inR n lo hi)) ∧ w = w' := by
  go_enter Try.func117, Try.ntmps117
  go_wp2_with fail
  all_goals (go_ret; refine ⟨ret_bool ?_, rfl⟩; simp only [inR]; grind)
theorem ret_chk {w w' : World} {k a b : Int} (h : a = b) (hb : Below w.heap.size w w') : (∃ k' : Int, Ending.returned (.tuple #[.int .i64 k, .int .i64 a]) = .returned (.tuple #[.int .i64 k', .int .i64 b])) ∧ Below w.heap.size w w' := ⟨⟨k, by rw [h]⟩, hb⟩
theorem okS_of {s : SN} (a : inR s.1 0 4000 = true) (b : inR s.2.1 (-300000) 300000 = true) (c : inR s.2.2.1 (-50000) 50000 = true) (d : inR s.2.2.2.1 0 50000 = true) (e : inR s.2.2.2.2 1 1000 = true) : okS s = true := by unfold okS; rw [a, b, c, d, e]; rfl
theorem okS_parts {s : SN} (h : okS s = true) : inR s.1 0 4000 = true ∧ inR s.2.1 (-300000) 300000 = true ∧ inR s.2.2.1 (-50000) 50000 = true ∧ inR s.2.2.2.1 0 50000 = true ∧ inR s.2.2.2.2 1 1000 = true := by
  simpa only [okS, Bool.and_eq_true, and_assoc] using h
theorem chkAt_first {l : List SN} {s : SN} (h : l[0]? = some s) (hk : okS s = true) : chkAt l 0 = chkAt l 1 := chkAt_next h hk (by have := (okS_iff.1 hk).1; simp only [prevT]; omega)
set_option maxRecDepth 100000 in
set_option maxHeartbeats 4000000 in
theorem check_any (v : Value) (l : List SN) (w : World) (h : Seens w v l) : Calls Try.prog 66 #[v] w fun e w' => (∃ k : Int, e = .returned (.tuple #[.int .i64 k, .int .i64 (chkE l)])) ∧ Below w.heap.size w w' := by
  obtain ⟨pa, b, o, cap, rfl, h1, h2, h3, h4⟩ := h
  have hcap : cap ≤ 9223372036854775807 := by unfold maxLen at h3; omega
  rcases Nat.lt_or_ge 64 l.length with hlong | hshort
  · have e1 : chkE l = 9 := by unfold chkE; rw [if_pos hlong]
    rw [e1]
    go_enter Try.func66, Try.ntmps66
    go_wp2_with fail
    go_ret2
    exact ret_chk rfl (by repeat (first | with_reducible exact Below.refl _ _ | with_reducible assumption | with_reducible refine Below.drew ?_ | with_reducible refine Below.setCell ?_ (by first | omega | (simp; omega) | simp) _ | with_reducible refine Below.alloc ?_ (by first | omega | (simp; omega) | simp) _ | with_reducible refine Below.trans ?_ (Below.mono (by with_reducible assumption) (by first | omega | (simp; omega) | simp))))
  · have e1 : chkE l = chkAt l 0 := by unfold chkE; rw [if_neg (by omega)]; rfl
    have hE := Lib.hid e1
    clear e1
    go_enter Try.func66, Try.ntmps66
    go_wp2_with fail
    go_loopw [11] (fun x wr => ∃ i : Nat, i ≤ l.length ∧ x = .int .i64 i ∧ Below w.heap.size w wr ∧ chkE l = chkAt l i) (fun x _ => l.length - (intOf x).toNat)
    case atStart => exact ⟨0, by omega, rfl, (by repeat (first | with_reducible exact Below.refl _ _ | with_reducible assumption | with_reducible refine Below.drew ?_ | with_reducible refine Below.setCell ?_ (by first | omega | (simp; omega) | simp) _ | with_reducible refine Below.alloc ?_ (by first | omega | (simp; omega) | simp) _ | with_reducible refine Below.trans ?_ (Below.mono (by with_reducible assumption) (by first | omega | (simp; omega) | simp)))), hE.out⟩
    case round =>
      obtain ⟨i, hi, rfl, hb0, hk0⟩ := hrel
      have hk := Lib.hid hk0
      clear hk0
      rcases Nat.lt_or_ge i l.length with hlt | hge
      · obtain rfl := h1 (by omega)
        obtain ⟨s, hs⟩ : ∃ s, l[i]? = some s := ⟨_, List.getElem?_eq_getElem hlt⟩
        obtain ⟨c0, c1, c2, c3, c4⟩ := (h4 i s hs).below hb0
        have hS := Lib.hid hs
        have hsz := hb0.size
        have hn : l.length - (i + 1) < l.length - i := by omega
        clear hs
        by_cases hok : okS s = true
        · obtain ⟨e1, e2, e3, e4, e5⟩ := okS_parts hok
          have hO := Lib.hid hok
          clear hok
          rcases Nat.eq_zero_or_pos i with rfl | hpos
          · simp only [Nat.zero_mul, Nat.add_zero] at c0 c1 c2 c3 c4
            have hnx := Lib.hid (chkAt_first hS.out hO.out)
            go_wp2_with (go_at_call 105; refine (from_any _ _ _ _).mono ?_; rintro e w' ⟨rfl, rfl⟩)
            have hl := @Later.cell
            refine region_later (by kernel_rfl) (by kernel_rfl) ?_; (repeat (go_big_quiet_step (fail))); refine wpQuiet_nil ?_; rintro _ ⟨x, rfl⟩; obtain ⟨w', hb⟩ := x; (try clear hc hf); (try clear hcM hfM); (try clear hcN hfN); (first | ((first | replace hB := Below.next hB (Nat.le_refl _) hb | replace hB := Below.next1 hB (Nat.le_refl _) hb | replace hB := Below.next2 hB (Nat.le_refl _) hb); (first | replace hM := Below.next hM (Nat.le_refl _) hb | replace hM := Below.next1 hM (Nat.le_refl _) hb | replace hM := Below.next2 hM (Nat.le_refl _) hb); (first | replace hN := Below.next hN (Nat.le_refl _) hb | replace hN := Below.next1 hN (Nat.le_refl _) hb | replace hN := Below.next2 hN (Nat.le_refl _) hb)) | ((first | replace hB := Below.next hB (Nat.le_refl _) hb | replace hB := Below.next1 hB (Nat.le_refl _) hb | replace hB := Below.next2 hB (Nat.le_refl _) hb); (first | replace hM := Below.next hM (Nat.le_refl _) hb | replace hM := Below.next1 hM (Nat.le_refl _) hb | replace hM := Below.next2 hM (Nat.le_refl _) hb); have hN := Below.mid hb) | ((first | replace hB := Below.next hB (Nat.le_refl _) hb | replace hB := Below.next1 hB (Nat.le_refl _) hb | replace hB := Below.next2 hB (Nat.le_refl _) hb); (first | replace hM := Below.next hM (Nat.le_refl _) hb | replace hM := Below.next1 hM (Nat.le_refl _) hb | replace hM := Below.next2 hM (Nat.le_refl _) hb)) | ((first | replace hB := Below.next hB (Nat.le_refl _) hb | replace hB := Below.next1 hB (Nat.le_refl _) hb | replace hB := Below.next2 hB (Nat.le_refl _) hb); have hM := Below.mid hb) | (first | replace hB := Below.next hB (Nat.le_refl _) hb | replace hB := Below.next1 hB (Nat.le_refl _) hb | replace hB := Below.next2 hB (Nat.le_refl _) hb) | have hB := hb); obtain ⟨hc, hf, hz⟩ := after hB; (try (have hq := after hM; obtain ⟨hcM, hfM, hzM⟩ := hq)); (try (have hq := after hN; obtain ⟨hcN, hfN, hzN⟩ := hq)); have hs := hb.size; (try simp at hz); (try simp at hs)
            have hK := Below.next1 hb0 (Nat.le_refl _) hb
            go_wp2_with fail
            exact ⟨⟨1, hlt, rfl, hK, hk.out.trans hnx.out⟩, by simpa [intOf] using hn⟩
          · obtain ⟨j, rfl⟩ : ∃ j, i = j + 1 := ⟨i - 1, by omega⟩
            have hn' : l.length - ((j : Int) + 1 + 1).toNat < l.length - (j + 1) := by omega
            obtain ⟨r, hr⟩ : ∃ r, l[j]? = some r := ⟨_, List.getElem?_eq_getElem (by omega)⟩
            obtain ⟨d0, _, _, _, _⟩ := (h4 j r hr).below hb0
            have hR := Lib.hid hr
            clear hr
            go_wp2_with (go_at_call 105; refine (from_any _ _ _ _).mono ?_; rintro e w' ⟨rfl, rfl⟩)
            have y0 : (wr.alloc (.cells #[.int .i64 s.1, .int .i64 s.2.1, .int .i64 s.2.2.1, .int .i64 s.2.2.2.1, .int .i64 s.2.2.2.2] 38)).cell? ⟨wr.heap.size, 0, none⟩ = some (.int .i64 s.1) := by simp [go_sem]
            have y1 := (cell_alloc_old wr (.cells #[.int .i64 s.1, .int .i64 s.2.1, .int .i64 s.2.2.1, .int .i64 s.2.2.2.1, .int .i64 s.2.2.2.2] 38) b (o + j * 5) (by simp [d0])).trans d0
            have hl := @Later.cell
            refine region_later (by kernel_rfl) (by kernel_rfl) ?_; (repeat (go_big_quiet_step (fail))); refine wpQuiet_nil ?_; rintro _ ⟨x, rfl⟩; obtain ⟨w', hb⟩ := x; (try clear hc hf); (try clear hcM hfM); (try clear hcN hfN); (first | ((first | replace hB := Below.next hB (Nat.le_refl _) hb | replace hB := Below.next1 hB (Nat.le_refl _) hb | replace hB := Below.next2 hB (Nat.le_refl _) hb); (first | replace hM := Below.next hM (Nat.le_refl _) hb | replace hM := Below.next1 hM (Nat.le_refl _) hb | replace hM := Below.next2 hM (Nat.le_refl _) hb); (first | replace hN := Below.next hN (Nat.le_refl _) hb | replace hN := Below.next1 hN (Nat.le_refl _) hb | replace hN := Below.next2 hN (Nat.le_refl _) hb)) | ((first | replace hB := Below.next hB (Nat.le_refl _) hb | replace hB := Below.next1 hB (Nat.le_refl _) hb | replace hB := Below.next2 hB (Nat.le_refl _) hb); (first | replace hM := Below.next hM (Nat.le_refl _) hb | replace hM := Below.next1 hM (Nat.le_refl _) hb | replace hM := Below.next2 hM (Nat.le_refl _) hb); have hN := Below.mid hb) | ((first | replace hB := Below.next hB (Nat.le_refl _) hb | replace hB := Below.next1 hB (Nat.le_refl _) hb | replace hB := Below.next2 hB (Nat.le_refl _) hb); (first | replace hM := Below.next hM (Nat.le_refl _) hb | replace hM := Below.next1 hM (Nat.le_refl _) hb | replace hM := Below.next2 hM (Nat.le_refl _) hb)) | ((first | replace hB := Below.next hB (Nat.le_refl _) hb | replace hB := Below.next1 hB (Nat.le_refl _) hb | replace hB := Below.next2 hB (Nat.le_refl _) hb); have hM := Below.mid hb) | (first | replace hB := Below.next hB (Nat.le_refl _) hb | replace hB := Below.next1 hB (Nat.le_refl _) hb | replace hB := Below.next2 hB (Nat.le_refl _) hb) | have hB := hb); obtain ⟨hc, hf, hz⟩ := after hB; (try (have hq := after hM; obtain ⟨hcM, hfM, hzM⟩ := hq)); (try (have hq := after hN; obtain ⟨hcN, hfN, hzN⟩ := hq)); have hs := hb.size; (try simp at hz); (try simp at hs)
            have hK := Below.next1 hb0 (Nat.le_refl _) hb
            go_wp2_with fail
            · go_ret2
              exact ret_chk (by rw [hk.out]; exact (chkAt_order hS.out hO.out (by rw [prevT_succ hR.out]; assumption)).symm) hK
            · exact ⟨⟨j + 1 + 1, hlt, by simp, hK, hk.out.trans (chkAt_next hS.out hO.out (by rw [prevT_succ hR.out]; omega))⟩, by simpa [intOf] using hn'⟩
        · have hN : okS s = false := by simpa using hok
          have hbad := Lib.hid (hk.out.trans (chkAt_bad hS.out hN))
          clear hok
          go_wp2_with (go_at_call 105; refine (from_any _ _ _ _).mono ?_; rintro e w' ⟨rfl, rfl⟩)
          all_goals first
            | (go_ret2; exact ret_chk hbad.out.symm (by repeat (first | with_reducible exact Below.refl _ _ | with_reducible assumption | with_reducible refine Below.drew ?_ | with_reducible refine Below.setCell ?_ (by first | omega | (simp; omega) | simp) _ | with_reducible refine Below.alloc ?_ (by first | omega | (simp; omega) | simp) _ | with_reducible refine Below.trans ?_ (Below.mono (by with_reducible assumption) (by first | omega | (simp; omega) | simp)))))
            | (exfalso; have := okS_of ‹_› ‹_› ‹_› ‹_› (by simpa using ‹(!inR s.2.2.2.2 1 1000) = false›); rw [hN] at this; cases this)
      · go_wp2_with fail
        go_ret2
        exact ret_chk (by rw [hk.out]; exact (chkAt_end hge).symm) hb0
set_option maxRecDepth 100000 in
set_option maxHeartbeats 4000000 in
theorem rcheck_any (v : Value) (l : List SN) (w : World) (h : Seens w v l) : Calls Try.prog 96 #[v] w fun e w' => (∃ k : Int, e = .returned (.tuple #[.int .i64 k, .int .i64 (chkE l)])) ∧ Below w.heap.size w w' := by
  obtain ⟨pa, b, o, cap, rfl, h1, h2, h3, h4⟩ := h
  have hcap : cap ≤ 9223372036854775807 := by unfold maxLen at h3; omega
  rcases Nat.lt_or_ge 64 l.length with hlong | hshort
  · have e1 : chkE l = 9 := by unfold chkE; rw [if_pos hlong]
    rw [e1]
    go_enter Try.func96, Try.ntmps96
    go_wp2_with fail
    go_ret2
    exact ret_chk rfl (by repeat (first | with_reducible exact Below.refl _ _ | with_reducible assumption | with_reducible refine Below.drew ?_ | with_reducible refine Below.setCell ?_ (by first | omega | (simp; omega) | simp) _ | with_reducible refine Below.alloc ?_ (by first | omega | (simp; omega) | simp) _ | with_reducible refine Below.trans ?_ (Below.mono (by with_reducible assumption) (by first | omega | (simp; omega) | simp))))
  · have e1 : chkE l = chkAt l 0 := by unfold chkE; rw [if_neg (by omega)]; rfl
    have hE := Lib.hid e1
    clear e1
    go_enter Try.func96, Try.ntmps96
    go_wp2_with fail
    go_loopw [11] (fun x wr => ∃ i : Nat, i ≤ l.length ∧ x = .int .i64 i ∧ Below w.heap.size w wr ∧ chkE l = chkAt l i) (fun x _ => l.length - (intOf x).toNat)
    case atStart => exact ⟨0, by omega, rfl, (by repeat (first | with_reducible exact Below.refl _ _ | with_reducible assumption | with_reducible refine Below.drew ?_ | with_reducible refine Below.setCell ?_ (by first | omega | (simp; omega) | simp) _ | with_reducible refine Below.alloc ?_ (by first | omega | (simp; omega) | simp) _ | with_reducible refine Below.trans ?_ (Below.mono (by with_reducible assumption) (by first | omega | (simp; omega) | simp)))), hE.out⟩
    case round =>
      obtain ⟨i, hi, rfl, hb0, hk0⟩ := hrel
      have hk := Lib.hid hk0
      clear hk0
      rcases Nat.lt_or_ge i l.length with hlt | hge
      · obtain rfl := h1 (by omega)
        obtain ⟨s, hs⟩ : ∃ s, l[i]? = some s := ⟨_, List.getElem?_eq_getElem hlt⟩
        obtain ⟨c0, c1, c2, c3, c4⟩ := (h4 i s hs).below hb0
        have hS := Lib.hid hs
        have hsz := hb0.size
        have hn : l.length - (i + 1) < l.length - i := by omega
        clear hs
        by_cases hok : okS s = true
        · obtain ⟨e1, e2, e3, e4, e5⟩ := okS_parts hok
          have hO := Lib.hid hok
          clear hok
          rcases Nat.eq_zero_or_pos i with rfl | hpos
          · simp only [Nat.zero_mul, Nat.add_zero] at c0 c1 c2 c3 c4
            have hnx := Lib.hid (chkAt_first hS.out hO.out)
            go_wp2_with (go_at_call 117; refine (between_any _ _ _ _).mono ?_; rintro e w' ⟨rfl, rfl⟩)
            have hl := @Later.cell
            refine region_later (by kernel_rfl) (by kernel_rfl) ?_; (repeat (go_big_quiet_step (fail))); refine wpQuiet_nil ?_; rintro _ ⟨x, rfl⟩; obtain ⟨w', hb⟩ := x; (try clear hc hf); (try clear hcM hfM); (try clear hcN hfN); (first | ((first | replace hB := Below.next hB (Nat.le_refl _) hb | replace hB := Below.next1 hB (Nat.le_refl _) hb | replace hB := Below.next2 hB (Nat.le_refl _) hb); (first | replace hM := Below.next hM (Nat.le_refl _) hb | replace hM := Below.next1 hM (Nat.le_refl _) hb | replace hM := Below.next2 hM (Nat.le_refl _) hb); (first | replace hN := Below.next hN (Nat.le_refl _) hb | replace hN := Below.next1 hN (Nat.le_refl _) hb | replace hN := Below.next2 hN (Nat.le_refl _) hb)) | ((first | replace hB := Below.next hB (Nat.le_refl _) hb | replace hB := Below.next1 hB (Nat.le_refl _) hb | replace hB := Below.next2 hB (Nat.le_refl _) hb); (first | replace hM := Below.next hM (Nat.le_refl _) hb | replace hM := Below.next1 hM (Nat.le_refl _) hb | replace hM := Below.next2 hM (Nat.le_refl _) hb); have hN := Below.mid hb) | ((first | replace hB := Below.next hB (Nat.le_refl _) hb | replace hB := Below.next1 hB (Nat.le_refl _) hb | replace hB := Below.next2 hB (Nat.le_refl _) hb); (first | replace hM := Below.next hM (Nat.le_refl _) hb | replace hM := Below.next1 hM (Nat.le_refl _) hb | replace hM := Below.next2 hM (Nat.le_refl _) hb)) | ((first | replace hB := Below.next hB (Nat.le_refl _) hb | replace hB := Below.next1 hB (Nat.le_refl _) hb | replace hB := Below.next2 hB (Nat.le_refl _) hb); have hM := Below.mid hb) | (first | replace hB := Below.next hB (Nat.le_refl _) hb | replace hB := Below.next1 hB (Nat.le_refl _) hb | replace hB := Below.next2 hB (Nat.le_refl _) hb) | have hB := hb); obtain ⟨hc, hf, hz⟩ := after hB; (try (have hq := after hM; obtain ⟨hcM, hfM, hzM⟩ := hq)); (try (have hq := after hN; obtain ⟨hcN, hfN, hzN⟩ := hq)); have hs := hb.size; (try simp at hz); (try simp at hs)
            have hK := Below.next1 hb0 (Nat.le_refl _) hb
            go_wp2_with fail
            exact ⟨⟨1, hlt, rfl, hK, hk.out.trans hnx.out⟩, by simpa [intOf] using hn⟩
          · obtain ⟨j, rfl⟩ : ∃ j, i = j + 1 := ⟨i - 1, by omega⟩
            have hn' : l.length - ((j : Int) + 1 + 1).toNat < l.length - (j + 1) := by omega
            obtain ⟨r, hr⟩ : ∃ r, l[j]? = some r := ⟨_, List.getElem?_eq_getElem (by omega)⟩
            obtain ⟨d0, _, _, _, _⟩ := (h4 j r hr).below hb0
            have hR := Lib.hid hr
            clear hr
            go_wp2_with (go_at_call 117; refine (between_any _ _ _ _).mono ?_; rintro e w' ⟨rfl, rfl⟩)
            have y0 : (wr.alloc (.cells #[.int .i64 s.1, .int .i64 s.2.1, .int .i64 s.2.2.1, .int .i64 s.2.2.2.1, .int .i64 s.2.2.2.2] 38)).cell? ⟨wr.heap.size, 0, none⟩ = some (.int .i64 s.1) := by simp [go_sem]
            have y1 := (cell_alloc_old wr (.cells #[.int .i64 s.1, .int .i64 s.2.1, .int .i64 s.2.2.1, .int .i64 s.2.2.2.1, .int .i64 s.2.2.2.2] 38) b (o + j * 5) (by simp [d0])).trans d0
            have hl := @Later.cell
            refine region_later (by kernel_rfl) (by kernel_rfl) ?_; (repeat (go_big_quiet_step (fail))); refine wpQuiet_nil ?_; rintro _ ⟨x, rfl⟩; obtain ⟨w', hb⟩ := x; (try clear hc hf); (try clear hcM hfM); (try clear hcN hfN); (first | ((first | replace hB := Below.next hB (Nat.le_refl _) hb | replace hB := Below.next1 hB (Nat.le_refl _) hb | replace hB := Below.next2 hB (Nat.le_refl _) hb); (first | replace hM := Below.next hM (Nat.le_refl _) hb | replace hM := Below.next1 hM (Nat.le_refl _) hb | replace hM := Below.next2 hM (Nat.le_refl _) hb); (first | replace hN := Below.next hN (Nat.le_refl _) hb | replace hN := Below.next1 hN (Nat.le_refl _) hb | replace hN := Below.next2 hN (Nat.le_refl _) hb)) | ((first | replace hB := Below.next hB (Nat.le_refl _) hb | replace hB := Below.next1 hB (Nat.le_refl _) hb | replace hB := Below.next2 hB (Nat.le_refl _) hb); (first | replace hM := Below.next hM (Nat.le_refl _) hb | replace hM := Below.next1 hM (Nat.le_refl _) hb | replace hM := Below.next2 hM (Nat.le_refl _) hb); have hN := Below.mid hb) | ((first | replace hB := Below.next hB (Nat.le_refl _) hb | replace hB := Below.next1 hB (Nat.le_refl _) hb | replace hB := Below.next2 hB (Nat.le_refl _) hb); (first | replace hM := Below.next hM (Nat.le_refl _) hb | replace hM := Below.next1 hM (Nat.le_refl _) hb | replace hM := Below.next2 hM (Nat.le_refl _) hb)) | ((first | replace hB := Below.next hB (Nat.le_refl _) hb | replace hB := Below.next1 hB (Nat.le_refl _) hb | replace hB := Below.next2 hB (Nat.le_refl _) hb); have hM := Below.mid hb) | (first | replace hB := Below.next hB (Nat.le_refl _) hb | replace hB := Below.next1 hB (Nat.le_refl _) hb | replace hB := Below.next2 hB (Nat.le_refl _) hb) | have hB := hb); obtain ⟨hc, hf, hz⟩ := after hB; (try (have hq := after hM; obtain ⟨hcM, hfM, hzM⟩ := hq)); (try (have hq := after hN; obtain ⟨hcN, hfN, hzN⟩ := hq)); have hs := hb.size; (try simp at hz); (try simp at hs)
            have hK := Below.next1 hb0 (Nat.le_refl _) hb
            go_wp2_with fail
            · go_ret2
              exact ret_chk (by rw [hk.out]; exact (chkAt_order hS.out hO.out (by rw [prevT_succ hR.out]; assumption)).symm) hK
            · exact ⟨⟨j + 1 + 1, hlt, by simp, hK, hk.out.trans (chkAt_next hS.out hO.out (by rw [prevT_succ hR.out]; omega))⟩, by simpa [intOf] using hn'⟩
        · have hN : okS s = false := by simpa using hok
          have hbad := Lib.hid (hk.out.trans (chkAt_bad hS.out hN))
          clear hok
          go_wp2_with (go_at_call 117; refine (between_any _ _ _ _).mono ?_; rintro e w' ⟨rfl, rfl⟩)
          all_goals first
            | (go_ret2; exact ret_chk hbad.out.symm (by repeat (first | with_reducible exact Below.refl _ _ | with_reducible assumption | with_reducible refine Below.drew ?_ | with_reducible refine Below.setCell ?_ (by first | omega | (simp; omega) | simp) _ | with_reducible refine Below.alloc ?_ (by first | omega | (simp; omega) | simp) _ | with_reducible refine Below.trans ?_ (Below.mono (by with_reducible assumption) (by first | omega | (simp; omega) | simp)))))
            | (exfalso; have := okS_of ‹_› ‹_› ‹_› ‹_› (by simpa using ‹(!inR s.2.2.2.2 1 1000) = false›); rw [hN] at this; cases this)
      · go_wp2_with fail
        go_ret2
        exact ret_chk (by rw [hk.out]; exact (chkAt_end hge).symm) hb0
end Go.Proofs.Ytmdledlbkdcmnaa

/-
  Contracts of Bounce and Behind, ours and the reference's.
  Conditions: none.
-/
namespace Go.Proofs.Ytmdledlbkdcmnaa
open Go.RowKit
/-- A number and some answer. -/
def IsBnc (k : Int) (e : Ending) : Prop := ∃ q : Bool, e = .returned (.tuple #[.int .i64 k, .bool q])
theorem ret_bnc {w w' : World} {a b : Int} {q : Bool} (h : a = b) (hb : Below w.heap.size w w') : IsBnc b (.returned (.tuple #[.int .i64 a, .bool q])) ∧ Below w.heap.size w w' := ⟨⟨q, by rw [h]⟩, hb⟩
theorem bncK_zero {l : List SN} {m : Nat} (hm : minAt l l.length = m) (h : m = 0 ∨ (m : Int) = (l.length : Int) - 1 ∨ 1000 < heightAt l m) : bncK l = 0 := by
  unfold bncK
  rw [hm]
  split
  · first | rfl | (split; · rfl; · rename_i h'; exact absurd h h')
  · rfl
theorem bncK_some {l : List SN} {m : Nat} (hc : chkE l = 0) (hm : minAt l l.length = m) (h0 : m ≠ 0) (h1 : (m : Int) ≠ (l.length : Int) - 1) (h2 : ¬ 1000 < heightAt l m) : bncK l = m := by
  unfold bncK
  rw [hm, if_pos hc, if_neg (by omega)]
theorem bncK_lt {l : List SN} (h : 0 < l.length) : bncK l < l.length := by
  have := minAt_lt (l := l) l.length (Nat.le_refl _) h
  unfold bncK
  split
  · split <;> omega
  · omega
set_option maxRecDepth 100000 in
set_option maxHeartbeats 4000000 in
theorem bounce_any (v : Value) (l : List SN) (w : World) (h : Seens w v l) : Calls Try.prog 25 #[v] w fun e w' => IsBnc (bncK l) e ∧ Below w.heap.size w w' := by
  have h0 := h
  obtain ⟨pa, b, o, cap, rfl, h1, h2, h3, h4⟩ := h
  have hcap : cap ≤ 9223372036854775807 := by unfold maxLen at h3; omega
  by_cases hc : chkE l = 0
  · have hl64 := chkE_len hc
    have hC := Lib.hid hc
    have hc' : (chkE l != 0) = false := by simp [hc]
    clear hc
    go_enter Try.func25, Try.ntmps25
    go_wp2_with (go_at_call 66; refine (check_any _ _ _ (h0.below (by repeat (first | with_reducible exact Below.refl _ _ | with_reducible assumption | with_reducible refine Below.drew ?_ | with_reducible refine Below.setCell ?_ (by first | omega | (simp; omega) | simp) _ | with_reducible refine Below.alloc ?_ (by first | omega | (simp; omega) | simp) _ | with_reducible refine Below.trans ?_ (Below.mono (by with_reducible assumption) (by first | omega | (simp; omega) | simp)))))).mono ?_; rintro e w1 ⟨⟨k0, rfl⟩, hb1⟩)
    go_loopw [6, 18] (fun y x wr => ∃ i : Nat, i ≤ l.length ∧ x = .int .i64 i ∧ y = .int .i64 (minAt l i : Nat) ∧ Below w.heap.size w wr) (fun _ x _ => l.length - (intOf x).toNat)
    case atStart => exact ⟨0, by omega, rfl, rfl, hb1⟩
    case round =>
      obtain ⟨i, hi, rfl, rfl, hb0⟩ := hrel
      rcases Nat.lt_or_ge i l.length with hlt | hge
      · obtain rfl := h1 (by omega)
        obtain ⟨s, hs⟩ : ∃ s, l[i]? = some s := ⟨_, List.getElem?_eq_getElem hlt⟩
        obtain ⟨c0, c1, c2, c3, c4⟩ := (h4 i s hs).below hb0
        have hml := minAt_lt (l := l) i (by omega) (by omega)
        obtain ⟨r, hr⟩ : ∃ r, l[minAt l i]? = some r := ⟨_, List.getElem?_eq_getElem hml⟩
        have hM := Lib.hid (minAt_next hs hr)
        obtain ⟨_, _, _, d3, _⟩ := (h4 _ r hr).below hb0
        have hsz := hb0.size
        have hn : l.length - (i + 1) < l.length - i := by omega
        clear hs hr
        generalize minAt l i = m at *
        go_wp2_with fail
        have y0 : (wr.alloc (.cells #[.int .i64 s.1, .int .i64 s.2.1, .int .i64 s.2.2.1, .int .i64 s.2.2.2.1, .int .i64 s.2.2.2.2] 38)).cell? ⟨wr.heap.size, 3, none⟩ = some (.int .i64 s.2.2.2.1) := by simp [go_sem]
        have y1 := (cell_alloc_old wr (.cells #[.int .i64 s.1, .int .i64 s.2.1, .int .i64 s.2.2.1, .int .i64 s.2.2.2.1, .int .i64 s.2.2.2.2] 38) b (o + m * 5 + 3) (by simp [d3])).trans d3
        have hl := @Later.cell
        refine region_later (by kernel_rfl) (by kernel_rfl) ?_; (repeat (go_big_quiet_step (fail))); refine wpQuiet_nil ?_; rintro _ ⟨x, rfl⟩; obtain ⟨w', hb⟩ := x; (try clear hc hf); (try clear hcM hfM); (try clear hcN hfN); (first | ((first | replace hB := Below.next hB (Nat.le_refl _) hb | replace hB := Below.next1 hB (Nat.le_refl _) hb | replace hB := Below.next2 hB (Nat.le_refl _) hb); (first | replace hM := Below.next hM (Nat.le_refl _) hb | replace hM := Below.next1 hM (Nat.le_refl _) hb | replace hM := Below.next2 hM (Nat.le_refl _) hb); (first | replace hN := Below.next hN (Nat.le_refl _) hb | replace hN := Below.next1 hN (Nat.le_refl _) hb | replace hN := Below.next2 hN (Nat.le_refl _) hb)) | ((first | replace hB := Below.next hB (Nat.le_refl _) hb | replace hB := Below.next1 hB (Nat.le_refl _) hb | replace hB := Below.next2 hB (Nat.le_refl _) hb); (first | replace hM := Below.next hM (Nat.le_refl _) hb | replace hM := Below.next1 hM (Nat.le_refl _) hb | replace hM := Below.next2 hM (Nat.le_refl _) hb); have hN := Below.mid hb) | ((first | replace hB := Below.next hB (Nat.le_refl _) hb | replace hB := Below.next1 hB (Nat.le_refl _) hb | replace hB := Below.next2 hB (Nat.le_refl _) hb); (first | replace hM := Below.next hM (Nat.le_refl _) hb | replace hM := Below.next1 hM (Nat.le_refl _) hb | replace hM := Below.next2 hM (Nat.le_refl _) hb)) | ((first | replace hB := Below.next hB (Nat.le_refl _) hb | replace hB := Below.next1 hB (Nat.le_refl _) hb | replace hB := Below.next2 hB (Nat.le_refl _) hb); have hM := Below.mid hb) | (first | replace hB := Below.next hB (Nat.le_refl _) hb | replace hB := Below.next1 hB (Nat.le_refl _) hb | replace hB := Below.next2 hB (Nat.le_refl _) hb) | have hB := hb); obtain ⟨hc, hf, hz⟩ := after hB; (try (have hq := after hM; obtain ⟨hcM, hfM, hzM⟩ := hq)); (try (have hq := after hN; obtain ⟨hcN, hfN, hzN⟩ := hq)); have hs := hb.size; (try simp at hz); (try simp at hs)
        have hK := Below.next1 hb0 (Nat.le_refl _) hb
        go_wp2_with fail
        · exact ⟨⟨i + 1, hlt, by simp, by rw [hM.out, if_pos ‹_›], hK⟩, by simpa [intOf] using hn⟩
        · exact ⟨⟨i + 1, hlt, by simp, by rw [hM.out, if_neg (by omega)], hK⟩, by simpa [intOf] using hn⟩
      · obtain rfl : i = l.length := by omega
        rcases Nat.eq_zero_or_pos l.length with hz | hpos
        · have hm0 : minAt l l.length = 0 := by rw [hz]; rfl
          rw [hm0]
          have hbz := bncK_zero hm0 (.inl rfl)
          have hZ := Lib.hid hbz
          clear hbz hm0 hge hi
          go_wp2_with fail
          go_ret2
          exact ret_bnc (by rw [hZ.out]; rfl) hb0
        · obtain rfl := h1 hpos
          have hml := minAt_lt (l := l) l.length (Nat.le_refl _) hpos
          obtain ⟨r, hr⟩ : ∃ r, l[minAt l l.length]? = some r := ⟨_, List.getElem?_eq_getElem hml⟩
          obtain ⟨_, _, _, d3, _⟩ := (h4 _ r hr).below hb0
          have hh : heightAt l (minAt l l.length) = r.2.2.2.1 := by unfold heightAt; rw [hr]
          have hH := Lib.hid hh
          clear hr hh
          generalize hmm : minAt l l.length = m at *
          have hm := Lib.hid hmm
          clear hmm hge hi
          go_wp2_with fail
          all_goals
            go_ret2
            first
              | exact ret_bnc (by rw [bncK_zero hm.out (.inl (by omega))]; rfl) hb0
              | exact ret_bnc (by rw [bncK_zero hm.out (.inr (.inl (by omega)))]; rfl) hb0
              | (have h3 : 1000 < heightAt l m := by rw [hH.out]; grind
                 exact ret_bnc (by rw [bncK_zero hm.out (.inr (.inr h3))]; rfl) hb0)
              | exact ret_bnc (by rw [bncK_some hC.out hm.out (by omega) (by omega) (by rw [hH.out]; omega)]) hb0
  · have e1 : bncK l = 0 := by unfold bncK; rw [if_neg hc]
    have hc' : (chkE l != 0) = true := by simp [hc]
    rw [e1]
    clear hc e1
    go_enter Try.func25, Try.ntmps25
    go_wp2_with (go_at_call 66; refine (check_any _ _ _ (h0.below (by repeat (first | with_reducible exact Below.refl _ _ | with_reducible assumption | with_reducible refine Below.drew ?_ | with_reducible refine Below.setCell ?_ (by first | omega | (simp; omega) | simp) _ | with_reducible refine Below.alloc ?_ (by first | omega | (simp; omega) | simp) _ | with_reducible refine Below.trans ?_ (Below.mono (by with_reducible assumption) (by first | omega | (simp; omega) | simp)))))).mono ?_; rintro e w1 ⟨⟨k0, rfl⟩, hb1⟩)
    go_ret2
    exact ret_bnc rfl hb1
def zeroS : Value := .agg #[.int .i64 0, .int .i64 0, .int .i64 0, .int .i64 0, .int .i64 0]
theorem seens_nil (w : World) : Seens w (.slice none 0 0) [] := ⟨none, 0, 0, 0, rfl, fun h => by simp at h, by simp, by omega, fun i x h => by simp at h⟩
theorem bhdL_nil {l : List SN} (h : l.length = 0) : bhdL l = [] := by
  obtain rfl : l = [] := List.eq_nil_of_length_eq_zero h
  unfold bhdL; split <;> simp
set_option maxRecDepth 100000 in
set_option maxHeartbeats 4000000 in
theorem behind_any (v : Value) (l : List SN) (w : World) (h : Seens w v l) : Calls Try.prog 76 #[v] w fun e w' => ∃ u, e = .returned u ∧ Seens w' u (bhdL l) ∧ Below w.heap.size w w' := by
  obtain ⟨i0, hi0, hz0, hz1, hz2⟩ := info_parts (P := Try.prog) (e := 38) (z := zeroS) (size := 5) (bytes := 40) (by kernel_rfl)
  have h0 := h
  obtain ⟨pa, b, o, cap, rfl, h1, h2, h3, h4⟩ := h
  have hcap : cap ≤ 9223372036854775807 := by unfold maxLen at h3; omega
  have hbk := bncK_le l
  by_cases hc : chkE l = 0
  · have hl64 := chkE_len hc
    have hC := Lib.hid hc
    have hc' : (chkE l != 0) = false := by simp [hc]
    clear hc
    rcases Nat.eq_zero_or_pos l.length with hz | hpos
    · have hb0 : bncK l = 0 := by omega
      rw [bhdL_nil hz]
      obtain rfl : l = [] := List.eq_nil_of_length_eq_zero hz
      replace h0 : Seens w (.slice pa 0 cap) [] := h0
      clear hz hl64 h4 h1 h2 hbk
      cases pa with
      | none =>
        go_enter Try.func76, Try.ntmps76
        go_wp2_with (first | (go_at_call 66; refine (check_any _ _ _ (h0.below (by repeat (first | with_reducible exact Below.refl _ _ | with_reducible assumption | with_reducible refine Below.drew ?_ | with_reducible refine Below.setCell ?_ (by first | omega | (simp; omega) | simp) _ | with_reducible refine Below.alloc ?_ (by first | omega | (simp; omega) | simp) _ | with_reducible refine Below.trans ?_ (Below.mono (by with_reducible assumption) (by first | omega | (simp; omega) | simp)))))).mono ?_; rintro e w1 ⟨⟨k0, rfl⟩, hb1⟩) | (go_at_call 25; refine (bounce_any _ _ _ (h0.below hb1)).mono ?_; rintro e w2 ⟨⟨q, rfl⟩, hb2⟩; rw [hb0]; have hK := Below.next hb1 (Nat.le_refl _) hb2))
        go_ret
        exact ⟨_, rfl, seens_nil _, hK⟩
      | some a =>
        go_enter Try.func76, Try.ntmps76
        go_wp2_with (first | (go_at_call 66; refine (check_any _ _ _ (h0.below (by repeat (first | with_reducible exact Below.refl _ _ | with_reducible assumption | with_reducible refine Below.drew ?_ | with_reducible refine Below.setCell ?_ (by first | omega | (simp; omega) | simp) _ | with_reducible refine Below.alloc ?_ (by first | omega | (simp; omega) | simp) _ | with_reducible refine Below.trans ?_ (Below.mono (by with_reducible assumption) (by first | omega | (simp; omega) | simp)))))).mono ?_; rintro e w1 ⟨⟨k0, rfl⟩, hb1⟩) | (go_at_call 25; refine (bounce_any _ _ _ (h0.below hb1)).mono ?_; rintro e w2 ⟨⟨q, rfl⟩, hb2⟩; rw [hb0]; have hK := Below.next hb1 (Nat.le_refl _) hb2))
        go_ret
        exact ⟨_, rfl, seens_nil _, hK⟩
    · obtain rfl := h1 hpos
      have hlt := bncK_lt hpos
      have hne : ¬cap = bncK l := by omega
      have hlen0 : ¬l.length - bncK l = 0 := by omega
      have hbl : (bhdL l).length = l.length - bncK l := by unfold bhdL; rw [if_pos hC.out, List.length_drop]
      have hat : ∀ i s, (bhdL l)[i]? = some s → SeenAt w b (o + bncK l * 5) i s := by
        intro i s hs
        unfold bhdL at hs
        rw [if_pos hC.out, List.getElem?_drop] at hs
        have := h4 _ s hs
        have e : o + (bncK l + i) * 5 = o + bncK l * 5 + i * 5 := by omega
        unfold SeenAt at this ⊢
        rwa [e] at this
      have hL := Lib.hid hat
      clear hat
      generalize hk : bncK l = k at *
      go_enter Try.func76, Try.ntmps76
      go_wp2_with (first
        | (go_at_call 66; refine (check_any _ _ _ (h0.below (by repeat (first | with_reducible exact Below.refl _ _ | with_reducible assumption | with_reducible refine Below.drew ?_ | with_reducible refine Below.setCell ?_ (by first | omega | (simp; omega) | simp) _ | with_reducible refine Below.alloc ?_ (by first | omega | (simp; omega) | simp) _ | with_reducible refine Below.trans ?_ (Below.mono (by with_reducible assumption) (by first | omega | (simp; omega) | simp)))))).mono ?_; rintro e w1 ⟨⟨k0, rfl⟩, hb1⟩)
        | (go_at_call 25; refine (bounce_any _ _ _ (h0.below hb1)).mono ?_; rintro e w2 ⟨⟨q, rfl⟩, hb2⟩; rw [hk]; have hK := Below.next hb1 (Nat.le_refl _) hb2; have hN := seens_cells (bhdL l) w2 b (o + k * 5) (fun i s hs => (hL.out i s hs).below hK); have hNH := Lib.hid hN; clear hN)
        | (at_builtin; refine wpList_append_own _ rfl _ _ 22 rfl w.heap.size 38 i0 zeroS 5 40 Try.underlying22 hi0 hz0 hz1 hz2 rfl (by decide) (.slice none 0 0) 0 [] rfl (World.ownsRow_nil _ _ _ _) ⟨b, o + k * 5, none⟩ (l.length - k) (cap - k) ((bhdL l).flatMap cells5) (by rfl) (by rw [cells5_len, hbl]) (by intro j u hu; rw [Addr.add_lit]; exact hNH.out j u hu) (cells5_one _) (by unfold maxLen; omega) (by omega) hK.size ?_; intro c w3 hc3 hg3 hnil3))
      go_ret
      rw [Nat.zero_add, List.nil_append, ← hbl] at hc3
      exact ⟨c, rfl, seens_own hc3, hK.grown hg3 hK.size (fun q hq => by simp [Value.ownBlock] at hq)⟩
  · have e1 : bhdL l = [] := by unfold bhdL; rw [if_neg hc]
    have hc' : (chkE l != 0) = true := by simp [hc]
    rw [e1]
    clear hc e1
    go_enter Try.func76, Try.ntmps76
    go_wp2_with (go_at_call 66; refine (check_any _ _ _ (h0.below (by repeat (first | with_reducible exact Below.refl _ _ | with_reducible assumption | with_reducible refine Below.drew ?_ | with_reducible refine Below.setCell ?_ (by first | omega | (simp; omega) | simp) _ | with_reducible refine Below.alloc ?_ (by first | omega | (simp; omega) | simp) _ | with_reducible refine Below.trans ?_ (Below.mono (by with_reducible assumption) (by first | omega | (simp; omega) | simp)))))).mono ?_; rintro e w1 ⟨⟨k0, rfl⟩, hb1⟩)
    go_ret
    exact ⟨_, rfl, seens_nil _, hb1⟩
end Go.Proofs.Ytmdledlbkdcmnaa

/-
  Contracts of the reference's Bounce and Behind.
  Conditions: none.
-/
namespace Go.Proofs.Ytmdledlbkdcmnaa
open Go.RowKit
theorem own_empty5 {w : World} {base g : Nat} {t : TypeId} (hg : base ≤ g) (h : w.heap[g]? = some (.cells #[] t (0, 0))) : w.ownsRow base t 5 (.slice (some ⟨g, 0, none⟩) 0 0) 0 [] :=
  ⟨rfl, .inr ⟨g, 0, #[], rfl, hg, h, Nat.le_refl _, by unfold maxLen; omega, rfl, rfl⟩⟩
theorem seens_empty {w : World} {p : Option Addr} : Seens w (.slice p 0 0) [] := ⟨p, 0, 0, 0, rfl, fun h => by simp at h, by simp, by omega, fun i x h => by simp at h⟩
set_option maxRecDepth 100000 in
set_option maxHeartbeats 4000000 in
theorem rbounce_any (v : Value) (l : List SN) (w : World) (h : Seens w v l) : Calls Try.prog 89 #[v] w fun e w' => IsBnc (bncK l) e ∧ Below w.heap.size w w' := by
  have h0 := h
  obtain ⟨pa, b, o, cap, rfl, h1, h2, h3, h4⟩ := h
  have hcap : cap ≤ 9223372036854775807 := by unfold maxLen at h3; omega
  rcases Nat.eq_zero_or_pos l.length with hz | hp0
  · obtain rfl : l = [] := List.eq_nil_of_length_eq_zero hz
    replace h0 : Seens w (.slice pa 0 cap) [] := h0
    have hb0 : bncK [] = 0 := by decide
    have hc0 : (chkE [] != 0) = false := by decide
    clear hz h4 h1 h2
    rw [hb0]
    go_enter Try.func89, Try.ntmps89
    go_wp2_with (go_at_call 96; refine (rcheck_any _ _ _ (h0.below (by repeat (first | with_reducible exact Below.refl _ _ | with_reducible assumption | with_reducible refine Below.drew ?_ | with_reducible refine Below.setCell ?_ (by first | omega | (simp; omega) | simp) _ | with_reducible refine Below.alloc ?_ (by first | omega | (simp; omega) | simp) _ | with_reducible refine Below.trans ?_ (Below.mono (by with_reducible assumption) (by first | omega | (simp; omega) | simp)))))).mono ?_; rintro e w1 ⟨⟨k0, rfl⟩, hb1⟩)
    go_ret2
    exact ret_bnc rfl hb1
  obtain rfl := h1 hp0
  clear h1
  by_cases hc : chkE l = 0
  · have hl64 := chkE_len hc
    have hC := Lib.hid hc
    have hc' : (chkE l != 0) = false := by simp [hc]
    have hnz : ((l.length : Int) == 0) = false := by rw [beq_eq_false_iff_ne]; omega
    clear hc
    go_enter Try.func89, Try.ntmps89
    go_wp2_with (go_at_call 96; refine (rcheck_any _ _ _ (h0.below (by repeat (first | with_reducible exact Below.refl _ _ | with_reducible assumption | with_reducible refine Below.drew ?_ | with_reducible refine Below.setCell ?_ (by first | omega | (simp; omega) | simp) _ | with_reducible refine Below.alloc ?_ (by first | omega | (simp; omega) | simp) _ | with_reducible refine Below.trans ?_ (Below.mono (by with_reducible assumption) (by first | omega | (simp; omega) | simp)))))).mono ?_; rintro e w1 ⟨⟨k0, rfl⟩, hb1⟩)
    go_loopw [6, 23] (fun y x wr => ∃ i : Nat, i ≤ l.length ∧ x = .int .i64 i ∧ y = .int .i64 (minAt l i : Nat) ∧ Below w.heap.size w wr) (fun _ x _ => l.length - (intOf x).toNat)
    case atStart => exact ⟨0, by omega, rfl, rfl, hb1⟩
    case round =>
      obtain ⟨i, hi, rfl, rfl, hb0⟩ := hrel
      rcases Nat.lt_or_ge i l.length with hlt | hge
      · obtain ⟨s, hs⟩ : ∃ s, l[i]? = some s := ⟨_, List.getElem?_eq_getElem hlt⟩
        obtain ⟨c0, c1, c2, c3, c4⟩ := (h4 i s hs).below hb0
        have hml := minAt_lt (l := l) i (by omega) (by omega)
        obtain ⟨r, hr⟩ : ∃ r, l[minAt l i]? = some r := ⟨_, List.getElem?_eq_getElem hml⟩
        have hM := Lib.hid (minAt_next hs hr)
        obtain ⟨_, _, _, d3, _⟩ := (h4 _ r hr).below hb0
        have hsz := hb0.size
        have hn : l.length - (i + 1) < l.length - i := by omega
        clear hs hr
        generalize minAt l i = m at *
        go_wp2_with fail
        have y0 : (wr.alloc (.cells #[.int .i64 s.1, .int .i64 s.2.1, .int .i64 s.2.2.1, .int .i64 s.2.2.2.1, .int .i64 s.2.2.2.2] 38)).cell? ⟨wr.heap.size, 3, none⟩ = some (.int .i64 s.2.2.2.1) := by simp [go_sem]
        have y1 := (cell_alloc_old wr (.cells #[.int .i64 s.1, .int .i64 s.2.1, .int .i64 s.2.2.1, .int .i64 s.2.2.2.1, .int .i64 s.2.2.2.2] 38) b (o + m * 5 + 3) (by simp [d3])).trans d3
        have hl := @Later.cell
        refine region_later (by kernel_rfl) (by kernel_rfl) ?_; (repeat (go_big_quiet_step (fail))); refine wpQuiet_nil ?_; rintro _ ⟨x, rfl⟩; obtain ⟨w', hb⟩ := x; (try clear hc hf); (try clear hcM hfM); (try clear hcN hfN); (first | ((first | replace hB := Below.next hB (Nat.le_refl _) hb | replace hB := Below.next1 hB (Nat.le_refl _) hb | replace hB := Below.next2 hB (Nat.le_refl _) hb); (first | replace hM := Below.next hM (Nat.le_refl _) hb | replace hM := Below.next1 hM (Nat.le_refl _) hb | replace hM := Below.next2 hM (Nat.le_refl _) hb); (first | replace hN := Below.next hN (Nat.le_refl _) hb | replace hN := Below.next1 hN (Nat.le_refl _) hb | replace hN := Below.next2 hN (Nat.le_refl _) hb)) | ((first | replace hB := Below.next hB (Nat.le_refl _) hb | replace hB := Below.next1 hB (Nat.le_refl _) hb | replace hB := Below.next2 hB (Nat.le_refl _) hb); (first | replace hM := Below.next hM (Nat.le_refl _) hb | replace hM := Below.next1 hM (Nat.le_refl _) hb | replace hM := Below.next2 hM (Nat.le_refl _) hb); have hN := Below.mid hb) | ((first | replace hB := Below.next hB (Nat.le_refl _) hb | replace hB := Below.next1 hB (Nat.le_refl _) hb | replace hB := Below.next2 hB (Nat.le_refl _) hb); (first | replace hM := Below.next hM (Nat.le_refl _) hb | replace hM := Below.next1 hM (Nat.le_refl _) hb | replace hM := Below.next2 hM (Nat.le_refl _) hb)) | ((first | replace hB := Below.next hB (Nat.le_refl _) hb | replace hB := Below.next1 hB (Nat.le_refl _) hb | replace hB := Below.next2 hB (Nat.le_refl _) hb); have hM := Below.mid hb) | (first | replace hB := Below.next hB (Nat.le_refl _) hb | replace hB := Below.next1 hB (Nat.le_refl _) hb | replace hB := Below.next2 hB (Nat.le_refl _) hb) | have hB := hb); obtain ⟨hc, hf, hz⟩ := after hB; (try (have hq := after hM; obtain ⟨hcM, hfM, hzM⟩ := hq)); (try (have hq := after hN; obtain ⟨hcN, hfN, hzN⟩ := hq)); have hs := hb.size; (try simp at hz); (try simp at hs)
        have hK := Below.next1 hb0 (Nat.le_refl _) hb
        go_wp2_with fail
        · exact ⟨⟨i + 1, hlt, by simp, by rw [hM.out, if_pos ‹_›], hK⟩, by simpa [intOf] using hn⟩
        · exact ⟨⟨i + 1, hlt, by simp, by rw [hM.out, if_neg (by omega)], hK⟩, by simpa [intOf] using hn⟩
      · obtain rfl : i = l.length := by omega
        · have hpos := hp0
          have hml := minAt_lt (l := l) l.length (Nat.le_refl _) hpos
          obtain ⟨r, hr⟩ : ∃ r, l[minAt l l.length]? = some r := ⟨_, List.getElem?_eq_getElem hml⟩
          obtain ⟨_, _, _, d3, _⟩ := (h4 _ r hr).below hb0
          have hh : heightAt l (minAt l l.length) = r.2.2.2.1 := by unfold heightAt; rw [hr]
          have hH := Lib.hid hh
          clear hr hh
          generalize hmm : minAt l l.length = m at *
          have hm := Lib.hid hmm
          clear hmm hge hi
          go_wp2_with fail
          all_goals
            go_ret2
            first
              | exact ret_bnc (by rw [bncK_zero hm.out (.inl (by omega))]; rfl) hb0
              | exact ret_bnc (by rw [bncK_zero hm.out (.inr (.inl (by omega)))]; rfl) hb0
              | (have h3 : 1000 < heightAt l m := by rw [hH.out]; grind
                 exact ret_bnc (by rw [bncK_zero hm.out (.inr (.inr h3))]; rfl) hb0)
              | exact ret_bnc (by rw [bncK_some hC.out hm.out (by omega) (by omega) (by rw [hH.out]; omega)]) hb0
  · have e1 : bncK l = 0 := by unfold bncK; rw [if_neg hc]
    have hc' : (chkE l != 0) = true := by simp [hc]
    rw [e1]
    clear hc e1
    go_enter Try.func89, Try.ntmps89
    go_wp2_with (go_at_call 96; refine (rcheck_any _ _ _ (h0.below (by repeat (first | with_reducible exact Below.refl _ _ | with_reducible assumption | with_reducible refine Below.drew ?_ | with_reducible refine Below.setCell ?_ (by first | omega | (simp; omega) | simp) _ | with_reducible refine Below.alloc ?_ (by first | omega | (simp; omega) | simp) _ | with_reducible refine Below.trans ?_ (Below.mono (by with_reducible assumption) (by first | omega | (simp; omega) | simp)))))).mono ?_; rintro e w1 ⟨⟨k0, rfl⟩, hb1⟩)
    go_ret2
    exact ret_bnc rfl hb1
set_option maxRecDepth 100000 in
set_option maxHeartbeats 4000000 in
theorem rbehind_any (v : Value) (l : List SN) (w : World) (h : Seens w v l) : Calls Try.prog 97 #[v] w fun e w' => ∃ u, e = .returned u ∧ Seens w' u (bhdL l) ∧ Below w.heap.size w w' := by
  obtain ⟨i0, hi0, hz0, hz1, hz2⟩ := info_parts (P := Try.prog) (e := 38) (z := zeroS) (size := 5) (bytes := 40) (by kernel_rfl)
  have h0 := h
  obtain ⟨pa, b, o, cap, rfl, h1, h2, h3, h4⟩ := h
  have hcap : cap ≤ 9223372036854775807 := by unfold maxLen at h3; omega
  have hbk := bncK_le l
  by_cases hc : chkE l = 0
  · have hl64 := chkE_len hc
    have hC := Lib.hid hc
    have hc' : (chkE l != 0) = false := by simp [hc]
    clear hc
    rcases Nat.eq_zero_or_pos l.length with hz | hpos
    · have hb0 : bncK l = 0 := by omega
      rw [bhdL_nil hz]
      obtain rfl : l = [] := List.eq_nil_of_length_eq_zero hz
      replace h0 : Seens w (.slice pa 0 cap) [] := h0
      clear hz hl64 h4 h1 h2 hbk
      cases pa with
      | none =>
        go_enter Try.func97, Try.ntmps97
        go_wp2_with (first | (go_at_call 96; refine (rcheck_any _ _ _ (h0.below (by repeat (first | with_reducible exact Below.refl _ _ | with_reducible assumption | with_reducible refine Below.drew ?_ | with_reducible refine Below.setCell ?_ (by first | omega | (simp; omega) | simp) _ | with_reducible refine Below.alloc ?_ (by first | omega | (simp; omega) | simp) _ | with_reducible refine Below.trans ?_ (Below.mono (by with_reducible assumption) (by first | omega | (simp; omega) | simp)))))).mono ?_; rintro e w1 ⟨⟨k0, rfl⟩, hb1⟩) | (go_at_call 89; refine (rbounce_any _ _ _ (h0.below hb1)).mono ?_; rintro e w2 ⟨⟨q, rfl⟩, hb2⟩; rw [hb0]; have hK := Below.next hb1 (Nat.le_refl _) hb2))
        go_ret
        exact ⟨_, rfl, seens_empty, hK.alloc hK.size _⟩
      | some a =>
        go_enter Try.func97, Try.ntmps97
        go_wp2_with (first | (go_at_call 96; refine (rcheck_any _ _ _ (h0.below (by repeat (first | with_reducible exact Below.refl _ _ | with_reducible assumption | with_reducible refine Below.drew ?_ | with_reducible refine Below.setCell ?_ (by first | omega | (simp; omega) | simp) _ | with_reducible refine Below.alloc ?_ (by first | omega | (simp; omega) | simp) _ | with_reducible refine Below.trans ?_ (Below.mono (by with_reducible assumption) (by first | omega | (simp; omega) | simp)))))).mono ?_; rintro e w1 ⟨⟨k0, rfl⟩, hb1⟩) | (go_at_call 89; refine (rbounce_any _ _ _ (h0.below hb1)).mono ?_; rintro e w2 ⟨⟨q, rfl⟩, hb2⟩; rw [hb0]; have hK := Below.next hb1 (Nat.le_refl _) hb2))
        go_ret
        exact ⟨_, rfl, seens_empty, hK.alloc hK.size _⟩
    · obtain rfl := h1 hpos
      have hlt := bncK_lt hpos
      have hne : ¬cap = bncK l := by omega
      have hlen0 : ¬l.length - bncK l = 0 := by omega
      have hbl : (bhdL l).length = l.length - bncK l := by unfold bhdL; rw [if_pos hC.out, List.length_drop]
      have hat : ∀ i s, (bhdL l)[i]? = some s → SeenAt w b (o + bncK l * 5) i s := by
        intro i s hs
        unfold bhdL at hs
        rw [if_pos hC.out, List.getElem?_drop] at hs
        have := h4 _ s hs
        have e : o + (bncK l + i) * 5 = o + bncK l * 5 + i * 5 := by omega
        unfold SeenAt at this ⊢
        rwa [e] at this
      have hL := Lib.hid hat
      clear hat
      generalize hk : bncK l = k at *
      go_enter Try.func97, Try.ntmps97
      go_wp2_with (first
        | (go_at_call 96; refine (rcheck_any _ _ _ (h0.below (by repeat (first | with_reducible exact Below.refl _ _ | with_reducible assumption | with_reducible refine Below.drew ?_ | with_reducible refine Below.setCell ?_ (by first | omega | (simp; omega) | simp) _ | with_reducible refine Below.alloc ?_ (by first | omega | (simp; omega) | simp) _ | with_reducible refine Below.trans ?_ (Below.mono (by with_reducible assumption) (by first | omega | (simp; omega) | simp)))))).mono ?_; rintro e w1 ⟨⟨k0, rfl⟩, hb1⟩)
        | (go_at_call 89; refine (rbounce_any _ _ _ (h0.below hb1)).mono ?_; rintro e w2 ⟨⟨q, rfl⟩, hb2⟩; rw [hk]; have hK := Below.next hb1 (Nat.le_refl _) hb2; have hKA : Below w.heap.size w (w2.alloc (.cells #[] 38)) := hK.alloc hK.size _; have hN := seens_cells (bhdL l) (w2.alloc (.cells #[] 38)) b (o + k * 5) (fun i s hs => (hL.out i s hs).below hKA); have hNH := Lib.hid hN; clear hN)
        | (at_builtin; refine wpList_append_own _ rfl _ _ 22 rfl w.heap.size 38 i0 zeroS 5 40 Try.underlying22 hi0 hz0 hz1 hz2 rfl (by decide) (.slice (some ⟨w2.heap.size, 0, none⟩) 0 0) 0 [] rfl (own_empty5 hK.size (heap_new w2 (.cells #[] 38) rfl)) ⟨b, o + k * 5, none⟩ (l.length - k) (cap - k) ((bhdL l).flatMap cells5) (by rfl) (by rw [cells5_len, hbl]) (by intro j u hu; rw [Addr.add_lit]; exact hNH.out j u hu) (cells5_one _) (by unfold maxLen; omega) (by omega) hKA.size ?_; intro c w3 hc3 hg3 hnil3))
      go_ret
      rw [Nat.zero_add, List.nil_append, ← hbl] at hc3
      exact ⟨c, rfl, seens_own hc3, hKA.grown hg3 hKA.size (fun q hq => by simp [Value.ownBlock] at hq; have := hK.size; omega)⟩
  · have e1 : bhdL l = [] := by unfold bhdL; rw [if_neg hc]
    have hc' : (chkE l != 0) = true := by simp [hc]
    rw [e1]
    clear hc e1
    go_enter Try.func97, Try.ntmps97
    go_wp2_with (go_at_call 96; refine (rcheck_any _ _ _ (h0.below (by repeat (first | with_reducible exact Below.refl _ _ | with_reducible assumption | with_reducible refine Below.drew ?_ | with_reducible refine Below.setCell ?_ (by first | omega | (simp; omega) | simp) _ | with_reducible refine Below.alloc ?_ (by first | omega | (simp; omega) | simp) _ | with_reducible refine Below.trans ?_ (Below.mono (by with_reducible assumption) (by first | omega | (simp; omega) | simp)))))).mono ?_; rintro e w1 ⟨⟨k0, rfl⟩, hb1⟩)
    go_ret
    exact ⟨_, rfl, seens_nil _, hb1⟩
end Go.Proofs.Ytmdledlbkdcmnaa

/-
  Three rows of points of one's own, apart from each other.
  Conditions: none.
-/
namespace Go.Proofs.Ytmdledlbkdcmnaa
open Go.RowKit
/-- No row of the one is a row of the other. -/
def Apart (a b : Value) : Prop := ∀ g, a.ownBlock = some g → b.ownBlock ≠ some g
theorem Apart.symm {a b : Value} (h : Apart a b) : Apart b a := fun g hb ha => h g ha hb
theorem Apart.or {a b : Value} (h : Apart a b) : a.ownBlock = none ∨ a.ownBlock ≠ b.ownBlock := by
  cases ha : a.ownBlock with
  | none => exact .inl rfl
  | some g => exact .inr fun e => h g ha e.symm
theorem Apart.grow {a a' b : Value} {n : Nat} (h : Apart a b) (hat : a'.ownBlock = a.ownBlock ∨ a'.ownBlock = some n) (hb : ∀ g, b.ownBlock = some g → g < n) : Apart a' b := by
  intro g ha hg
  rcases hat with e | e
  · exact h g (e ▸ ha) hg
  · have := hb g hg
    rw [e] at ha
    obtain rfl := Option.some.inj ha
    omega
structure Own3 (t : TypeId) (base : Nat) (w : World) (x y z : Value) (X Y Z : List PT) : Prop where
  hx : w.ownsRow base t 2 x X.length (X.flatMap cells2)
  hy : w.ownsRow base t 2 y Y.length (Y.flatMap cells2)
  hz : w.ownsRow base t 2 z Z.length (Z.flatMap cells2)
  xy : Apart x y
  xz : Apart x z
  yz : Apart y z
theorem Own3.nil (t : TypeId) (base : Nat) (w : World) : Own3 t base w (.slice none 0 0) (.slice none 0 0) (.slice none 0 0) [] [] [] :=
  ⟨World.ownsRow_nil _ _ _ _, World.ownsRow_nil _ _ _ _, World.ownsRow_nil _ _ _ _, fun g h => by simp [Value.ownBlock] at h, fun g h => by simp [Value.ownBlock] at h, fun g h => by simp [Value.ownBlock] at h⟩
section
variable {t : TypeId} {base : Nat} {w w' : World} {x y z v : Value} {X Y Z : List PT} {p : PT}
theorem Own3.below (h : Own3 t base w x y z X Y Z) (hb : Below w.heap.size w w') : Own3 t base w' x y z X Y Z := ⟨own_below h.hx hb, own_below h.hy hb, own_below h.hz hb, h.xy, h.xz, h.yz⟩
theorem Own3.alloc (h : Own3 t base w x y z X Y Z) (o : Obj) : Own3 t base (w.alloc o) x y z X Y Z := ⟨h.hx.alloc _, h.hy.alloc _, h.hz.alloc _, h.xy, h.xz, h.yz⟩
theorem push_len {X : List PT} {v : Value} (o : w'.ownsRow base t 2 v (X.length + 1) (X.flatMap cells2 ++ cells2 p)) : w'.ownsRow base t 2 v (X ++ [p]).length ((X ++ [p]).flatMap cells2) := by
  simpa [List.flatMap_append] using o
theorem Own3.pushX (h : Own3 t base w x y z X Y Z) (o : w'.ownsRow base t 2 v (X.length + 1) (X.flatMap cells2 ++ cells2 p)) (g : w.grownBy w' x.ownBlock) (a : v.ownBlock = x.ownBlock ∨ v.ownBlock = some w.heap.size) : Own3 t base w' v y z (X ++ [p]) Y Z :=
  ⟨push_len o, h.hy.kept g h.xy.symm.or, h.hz.kept g h.xz.symm.or, h.xy.grow a (fun q hq => (h.hy.lt q hq).2), h.xz.grow a (fun q hq => (h.hz.lt q hq).2), h.yz⟩
theorem Own3.pushY (h : Own3 t base w x y z X Y Z) (o : w'.ownsRow base t 2 v (Y.length + 1) (Y.flatMap cells2 ++ cells2 p)) (g : w.grownBy w' y.ownBlock) (a : v.ownBlock = y.ownBlock ∨ v.ownBlock = some w.heap.size) : Own3 t base w' x v z X (Y ++ [p]) Z :=
  ⟨h.hx.kept g h.xy.or, push_len o, h.hz.kept g h.yz.symm.or, (h.xy.symm.grow a (fun q hq => (h.hx.lt q hq).2)).symm, h.xz, h.yz.grow a (fun q hq => (h.hz.lt q hq).2)⟩
theorem Own3.pushZ (h : Own3 t base w x y z X Y Z) (o : w'.ownsRow base t 2 v (Z.length + 1) (Z.flatMap cells2 ++ cells2 p)) (g : w.grownBy w' z.ownBlock) (a : v.ownBlock = z.ownBlock ∨ v.ownBlock = some w.heap.size) : Own3 t base w' x y v X Y (Z ++ [p]) :=
  ⟨h.hx.kept g h.xz.or, h.hy.kept g h.yz.or, push_len o, h.xy, (h.xz.symm.grow a (fun q hq => (h.hx.lt q hq).2)).symm, (h.yz.symm.grow a (fun q hq => (h.hy.lt q hq).2)).symm⟩
end
theorem own_pts {t : TypeId} {base : Nat} {w : World} {v : Value} {L : List PT} (h : w.ownsRow base t 2 v L.length (L.flatMap cells2)) : Pts w v L := by
  rcases h.2 with ⟨rfl, h0⟩ | ⟨g, cap, cur, rfl, hg, hh, h1, h2, h3, h4⟩
  · refine ⟨none, 0, 0, 0, by rw [h0], fun hp => by omega, by omega, by omega, fun i p hp => ?_⟩
    have := (List.getElem?_eq_some_iff.1 hp).1
    omega
  · refine ⟨_, g, 0, cap, rfl, fun _ => rfl, h1, h2, fun i p hp => ?_⟩
    have hi := (List.getElem?_eq_some_iff.1 hp).1
    obtain ⟨a, b⟩ := cells2_at L i p hp
    have e1 := World.ownsRow.cellAt h (i * 2) (by omega)
    have e2 := World.ownsRow.cellAt h (i * 2 + 1) (by omega)
    rw [Nat.zero_add, e1, e2]
    exact ⟨a, b⟩
theorem own_slice {w : World} {base size n : Nat} {e : TypeId} {v : Value} {xs : List Value} (h : w.ownsRow base e size v n xs) : ∃ p c, v = .slice p n c := by
  rcases h.2 with ⟨rfl, rfl⟩ | ⟨g, cap, cur, rfl, _⟩
  · exact ⟨_, _, rfl⟩
  · exact ⟨_, _, rfl⟩
end Go.Proofs.Ytmdledlbkdcmnaa

/-
  Slices of structs of n plain cells, read and made.
  Conditions: none.
-/
namespace Go.Proofs.Ytmdledlbkdcmnaa
open Go.RowKit
section
variable {α : Type} {n : Nat} {f : α → List Value}
def Held (n : Nat) (f : α → List Value) (w : World) (v : Value) (l : List α) : Prop :=
  ∃ (pa : Option Addr) (b o cap : Nat), v = .slice pa l.length cap ∧ (0 < l.length → pa = some ⟨b, o, none⟩) ∧ l.length ≤ cap ∧ cap ≤ maxLen ∧ ∀ i x, l[i]? = some x → ∀ j u, (f x)[j]? = some u → w.cell? ⟨b, o + i * n + j, none⟩ = some u
theorem cells_below {w w' : World} {b o : Nat} {x : α} (h : ∀ j u, (f x)[j]? = some u → w.cell? ⟨b, o + j, none⟩ = some u) (hb : Below w.heap.size w w') : ∀ j u, (f x)[j]? = some u → w'.cell? ⟨b, o + j, none⟩ = some u :=
  fun j u hu => ((after hb).1 _ _ (by simp [h j u hu])).trans (h j u hu)
theorem Held.below {w w' : World} {v : Value} {l : List α} (h : Held n f w v l) (hb : Below w.heap.size w w') : Held n f w' v l := by
  obtain ⟨pa, b, o, cap, rfl, h1, h2, h3, h4⟩ := h
  exact ⟨pa, b, o, cap, rfl, h1, h2, h3, fun i x hx => cells_below (h4 i x hx) hb⟩
theorem flat_len (hn : ∀ x, (f x).length = n) : ∀ l : List α, (l.flatMap f).length = l.length * n
  | [] => by simp
  | d :: l => by simp only [List.flatMap_cons, List.length_append, flat_len hn l, hn, List.length_cons, Nat.add_mul, Nat.one_mul]; omega
theorem flat_at (hn : ∀ x, (f x).length = n) : ∀ (l : List α) (i : Nat) (x : α) (j : Nat) (u : Value), l[i]? = some x → (f x)[j]? = some u → (l.flatMap f)[i * n + j]? = some u
  | [], i, x, j, u, h, _ => by simp at h
  | d :: l, 0, x, j, u, h, hu => by
    obtain rfl : d = x := by simpa using h
    have hj := (List.getElem?_eq_some_iff.1 hu).1
    rw [List.flatMap_cons, Nat.zero_mul, Nat.zero_add, List.getElem?_append_left hj]
    exact hu
  | d :: l, i + 1, x, j, u, h, hu => by
    have e : (i + 1) * n + j = (f d).length + (i * n + j) := by rw [hn, Nat.add_mul, Nat.one_mul]; omega
    rw [List.flatMap_cons, e, List.getElem?_append_right (Nat.le_add_right _ _), Nat.add_sub_cancel_left]
    exact flat_at hn l i x j u (by simpa using h) hu
theorem held_own {t : TypeId} {base : Nat} {w : World} {v : Value} {l : List α} (hn : ∀ x, (f x).length = n) (h : w.ownsRow base t n v l.length (l.flatMap f)) : Held n f w v l := by
  rcases h.2 with ⟨rfl, h0⟩ | ⟨g, cap, cur, rfl, hg, hh, h1, h2, h3, h4⟩
  · refine ⟨none, 0, 0, 0, by rw [h0], fun hp => by omega, by omega, by omega, fun i p hp => ?_⟩
    have := (List.getElem?_eq_some_iff.1 hp).1
    omega
  · refine ⟨_, g, 0, cap, rfl, fun _ => rfl, h1, h2, fun i p hp j u hu => ?_⟩
    have hi := (List.getElem?_eq_some_iff.1 hp).1
    have hj := (List.getElem?_eq_some_iff.1 hu).1
    rw [hn] at hj
    have hb : i * n + j < l.length * n := by
      have : (i + 1) * n ≤ l.length * n := Nat.mul_le_mul_right _ hi
      rw [Nat.add_mul, Nat.one_mul] at this
      omega
    have e0 := World.ownsRow.cellAt h (i * n + j) hb
    have e1 := flat_at hn l i p j u hp hu
    rw [Nat.zero_add, e0, e1]
theorem held_take {w : World} {pa : Option Addr} {len cap c m : Nat} {l : List α} (h : Held n f w (.slice pa len cap) l) (hm : m ≤ l.length) (hc : m ≤ c) (hc2 : c ≤ cap) : Held n f w (.slice pa m c) (l.take m) := by
  obtain ⟨pb, b, o, cap', hv, h1, h2, h3, h4⟩ := h
  obtain ⟨rfl, rfl, rfl⟩ : pa = pb ∧ len = l.length ∧ cap = cap' := by simpa using hv
  have hl : (l.take m).length = m := by rw [List.length_take]; omega
  refine ⟨pa, b, o, c, by rw [hl], fun hp => h1 (by omega), by omega, by omega, fun i x hx => ?_⟩
  rw [List.getElem?_take] at hx
  split at hx
  · exact h4 i x hx
  · simp at hx
theorem held_nil (w : World) (pa : Option Addr) (c : Nat) (hc : c ≤ maxLen) : Held n f w (.slice pa 0 c) [] := ⟨pa, 0, 0, c, rfl, fun h => by simp at h, by simp, hc, fun i x h => by simp at h⟩
theorem own_push {t : TypeId} {base : Nat} {w : World} {v : Value} {l : List α} {d : α} (h : w.ownsRow base t n v (l.length + 1) (l.flatMap f ++ f d)) : w.ownsRow base t n v (l ++ [d]).length ((l ++ [d]).flatMap f) := by
  simpa [List.flatMap_append] using h
end
/-- Bounds and lines as they lie in memory. -/
def cB (b : Int × Int × Int) : List Value := [.int .i64 b.1, .int .i64 b.2.1, .int .i64 b.2.2]
def cL (x : Int × Int × Int × Int) : List Value := [.int .i64 x.1, .int .i64 x.2.1, .int .i64 x.2.2.1, .int .i64 x.2.2.2]
theorem cB_len (b : Int × Int × Int) : (cB b).length = 3 := rfl
theorem cL_len (b : Int × Int × Int × Int) : (cL b).length = 4 := rfl
theorem cB_one (b : Int × Int × Int) : ∀ u ∈ cB b, u.oneCell' = true := by
  intro u hu
  simp only [cB, List.mem_cons, List.not_mem_nil, or_false] at hu
  rcases hu with rfl | rfl | rfl <;> rfl
theorem cL_one (b : Int × Int × Int × Int) : ∀ u ∈ cL b, u.oneCell' = true := by
  intro u hu
  simp only [cL, List.mem_cons, List.not_mem_nil, or_false] at hu
  rcases hu with rfl | rfl | rfl | rfl <;> rfl
theorem cB_at {w : World} {b o : Nat} {x : Int × Int × Int} (h : ∀ j u, (cB x)[j]? = some u → w.cell? ⟨b, o + j, none⟩ = some u) : w.cell? ⟨b, o, none⟩ = some (.int .i64 x.1) ∧ w.cell? ⟨b, o + 1, none⟩ = some (.int .i64 x.2.1) ∧ w.cell? ⟨b, o + 2, none⟩ = some (.int .i64 x.2.2) := ⟨h 0 _ rfl, h 1 _ rfl, h 2 _ rfl⟩
theorem cL_at {w : World} {b o : Nat} {x : Int × Int × Int × Int} (h : ∀ j u, (cL x)[j]? = some u → w.cell? ⟨b, o + j, none⟩ = some u) : w.cell? ⟨b, o, none⟩ = some (.int .i64 x.1) ∧ w.cell? ⟨b, o + 1, none⟩ = some (.int .i64 x.2.1) ∧ w.cell? ⟨b, o + 2, none⟩ = some (.int .i64 x.2.2.1) ∧ w.cell? ⟨b, o + 3, none⟩ = some (.int .i64 x.2.2.2) := ⟨h 0 _ rfl, h 1 _ rfl, h 2 _ rfl, h 3 _ rfl⟩
abbrev Bnds (w : World) (v : Value) (l : List (Int × Int × Int)) : Prop := Held 3 cB w v l
abbrev Lns (w : World) (v : Value) (l : List (Int × Int × Int × Int)) : Prop := Held 4 cL w v l
end Go.Proofs.Ytmdledlbkdcmnaa

/-
  Contracts of division rounded up by a positive number, ours and the reference's.
  Conditions: the division's divisor is positive.
-/
namespace Go.Proofs.Ytmdledlbkdcmnaa
open Go.RowKit
theorem tdiv_ceil {n d : Int} (hd : 0 < d) : (if n.tmod d ≠ 0 ∧ ¬n < 0 then n.tdiv d + 1 else n.tdiv d) = -(-n / d) := by
  have h := tdiv_floor (n := -n) hd
  rw [Int.neg_tdiv, Int.neg_tmod] at h
  rw [← h]
  by_cases hr : n.tmod d = 0
  · rw [if_neg (by simp [hr]), if_neg (by simp [hr])]; omega
  · have hn : n ≠ 0 := by rintro rfl; simp at hr
    by_cases h0 : n < 0
    · rw [if_neg (by omega), if_neg (by omega)]; omega
    · rw [if_pos ⟨hr, h0⟩, if_pos ⟨by omega, by omega⟩]; omega
theorem ceil_bd {n d : Int} (hd : 0 < d) (h1 : -9223372036854775807 ≤ n) (h2 : n ≤ 9223372036854775807) : -9223372036854775807 ≤ -(-n / d) ∧ -(-n / d) ≤ 9223372036854775807 := by
  have h3 : (-9223372036854775807 : Int) ≤ -n / d := Int.le_ediv_of_mul_le hd (by omega)
  have h4 : -n / d < 9223372036854775808 := Int.ediv_lt_of_lt_mul hd (by omega)
  omega
theorem ceil_more {n d : Int} (hd : 0 < d) (h1 : -9223372036854775807 ≤ n) (h2 : n ≤ 9223372036854775807) (hr : ¬n.tmod d = 0) (hn : ¬n < 0) : wrap64 (n.tdiv d + 1) = -(-n / d) := by
  have hf := tdiv_ceil (n := n) hd
  rw [if_pos ⟨hr, hn⟩] at hf
  have := ceil_bd hd h1 h2
  rw [hf]
  exact wrap_id (by omega) (by omega)
theorem ceil_same {n d : Int} (hd : 0 < d) (hr : ¬(n.tmod d ≠ 0 ∧ ¬n < 0)) : n.tdiv d = -(-n / d) := by
  have hf := tdiv_ceil (n := n) hd
  rwa [if_neg hr] at hf
set_option maxHeartbeats 1000000 in
theorem ceildiv_any (n d : Int) (hd : 0 < d) (hn1 : -9223372036854775807 ≤ n) (hn2 : n ≤ 9223372036854775807) (hd2 : d ≤ 9223372036854775807) (w : World) : Calls Try.prog 121 #[.int .i64 n, .int .i64 d] w fun e w' => e = .returned (.tuple #[.int .i64 (-(-n / d)), .int .i64 0]) ∧ Below w.heap.size w w' := by
  go_enter Try.func121, Try.ntmps121
  go_wp2_with (go_at_call 131; refine (divided_any _ _ hd _).mono ?_; rintro e w' ⟨rfl, rfl⟩)
  all_goals go_ret2
  all_goals
    refine ⟨ret_tup ?_, (by repeat (first | with_reducible exact Below.refl _ _ | with_reducible assumption | with_reducible refine Below.drew ?_ | with_reducible refine Below.setCell ?_ (by first | omega | (simp; omega) | simp) _ | with_reducible refine Below.alloc ?_ (by first | omega | (simp; omega) | simp) _ | with_reducible refine Below.trans ?_ (Below.mono (by with_reducible assumption) (by first | omega | (simp; omega) | simp))))⟩
    first
      | exact ceil_same hd (by grind)
      | exact ceil_more hd hn1 hn2 (by grind) (by grind)
theorem floor_ceil {n d : Int} (hd : 0 < d) (hr : ¬n.tmod d = 0) : n / d + 1 = -(-n / d) := by
  have h1 := tdiv_floor (n := n) hd
  have h2 := tdiv_ceil (n := n) hd
  by_cases h0 : n < 0
  · rw [if_pos ⟨hr, h0⟩] at h1; rw [if_neg (by omega)] at h2; omega
  · rw [if_neg (by omega)] at h1; rw [if_pos ⟨hr, h0⟩] at h2; omega
theorem floor_even {n d : Int} (hd : 0 < d) (hr : n.tmod d = 0) : n / d = -(-n / d) := by
  have h1 := tdiv_floor (n := n) hd
  have h2 := tdiv_ceil (n := n) hd
  rw [if_neg (by simp [hr])] at h1 h2
  omega
theorem floor_up {n d : Int} (hd : 0 < d) (hn1 : -9223372036854775807 ≤ n) (hn2 : n ≤ 9223372036854775807) (hr : ¬n.tmod d = 0) : wrap64 (n / d + 1) = -(-n / d) := by
  rw [floor_ceil hd hr]
  have := ceil_bd hd hn1 hn2
  exact wrap_id (by omega) (by omega)
set_option maxHeartbeats 1000000 in
theorem rceildiv_any (n d : Int) (hd : 0 < d) (hn1 : -9223372036854775807 ≤ n) (hn2 : n ≤ 9223372036854775807) (hd2 : d ≤ 9223372036854775807) (w : World) : Calls Try.prog 125 #[.int .i64 n, .int .i64 d] w fun e w' => e = .returned (.tuple #[.int .i64 (-(-n / d)), .int .i64 0]) ∧ Below w.heap.size w w' := by
  have hd0 : ¬d = 0 := by omega
  have hf := fun w => rfloordiv_any n d hd (by omega) hn2 hd2 w
  have hbd := div_bd hd (n := n) (by omega) hn2
  have hF := Lib.hid hf
  clear hf
  generalize hq : n / d = q at *
  have hQ := Lib.hid hq
  clear hq
  go_enter Try.func125, Try.ntmps125
  go_wp2_with (go_at_call 126; refine (hF.out _).mono ?_; rintro e w' ⟨rfl, hb⟩; (try clear hc hf); (try clear hcM hfM); (try clear hcN hfN); (first | ((first | replace hB := Below.next hB (Nat.le_refl _) hb | replace hB := Below.next1 hB (Nat.le_refl _) hb | replace hB := Below.next2 hB (Nat.le_refl _) hb); (first | replace hM := Below.next hM (Nat.le_refl _) hb | replace hM := Below.next1 hM (Nat.le_refl _) hb | replace hM := Below.next2 hM (Nat.le_refl _) hb); (first | replace hN := Below.next hN (Nat.le_refl _) hb | replace hN := Below.next1 hN (Nat.le_refl _) hb | replace hN := Below.next2 hN (Nat.le_refl _) hb)) | ((first | replace hB := Below.next hB (Nat.le_refl _) hb | replace hB := Below.next1 hB (Nat.le_refl _) hb | replace hB := Below.next2 hB (Nat.le_refl _) hb); (first | replace hM := Below.next hM (Nat.le_refl _) hb | replace hM := Below.next1 hM (Nat.le_refl _) hb | replace hM := Below.next2 hM (Nat.le_refl _) hb); have hN := Below.mid hb) | ((first | replace hB := Below.next hB (Nat.le_refl _) hb | replace hB := Below.next1 hB (Nat.le_refl _) hb | replace hB := Below.next2 hB (Nat.le_refl _) hb); (first | replace hM := Below.next hM (Nat.le_refl _) hb | replace hM := Below.next1 hM (Nat.le_refl _) hb | replace hM := Below.next2 hM (Nat.le_refl _) hb)) | ((first | replace hB := Below.next hB (Nat.le_refl _) hb | replace hB := Below.next1 hB (Nat.le_refl _) hb | replace hB := Below.next2 hB (Nat.le_refl _) hb); have hM := Below.mid hb) | (first | replace hB := Below.next hB (Nat.le_refl _) hb | replace hB := Below.next1 hB (Nat.le_refl _) hb | replace hB := Below.next2 hB (Nat.le_refl _) hb) | have hB := hb); obtain ⟨hc, hf, hz⟩ := after hB; (try (have hq := after hM; obtain ⟨hcM, hfM, hzM⟩ := hq)); (try (have hq := after hN; obtain ⟨hcN, hfN, hzN⟩ := hq)); have hs := hb.size; (try simp at hz); (try simp at hs))
  all_goals go_ret2
  all_goals
    refine ⟨ret_tup ?_, (by repeat (first | with_reducible exact Below.refl _ _ | with_reducible assumption | with_reducible refine Below.drew ?_ | with_reducible refine Below.setCell ?_ (by first | omega | (simp; omega) | simp) _ | with_reducible refine Below.alloc ?_ (by first | omega | (simp; omega) | simp) _ | with_reducible refine Below.trans ?_ (Below.mono (by with_reducible assumption) (by first | omega | (simp; omega) | simp))))⟩
    rw [← hQ.out]
    first
      | exact floor_even hd (by grind)
      | exact floor_up hd hn1 hn2 (by grind)
end Go.Proofs.Ytmdledlbkdcmnaa

/-
  Contracts of Raise and of the rounding, ours and the reference's; of At for paths.
  Conditions: none.
-/
namespace Go.Proofs.Ytmdledlbkdcmnaa
open Go.RowKit
theorem raise_no {t z : Int} (h : t < 0 ∨ 8000 < t ∨ z < -1000000 ∨ 1000000 < z) : 0 = raiseV t z := by unfold raiseV; rw [if_pos h]
theorem raise_yes {t z : Int} (h : ¬(t < 0 ∨ 8000 < t ∨ z < -1000000 ∨ 1000000 < z)) : raiseV t z = z * 80000 + 981 * t * t := by unfold raiseV; rw [if_neg h]
set_option maxHeartbeats 1000000 in
theorem raise_any (t z : Int) (w : World) : Calls Try.prog 53 #[.int .i64 t, .int .i64 z] w fun e w' => e = .returned (.int .i64 (raiseV t z)) ∧ w = w' := by
  by_cases h : t < 0 ∨ 8000 < t ∨ z < -1000000 ∨ 1000000 < z
  · have e1 := raise_no h
    rw [← e1]
    clear e1
    go_enter Try.func53, Try.ntmps53
    go_wp2_with fail
    all_goals first
      | (go_ret; exact ⟨rfl, rfl⟩)
      | (exfalso; omega)
  · have e1 := raise_yes h
    have hb := grav_bd (t := t) (by omega) (by omega)
    have hb2 : 0 ≤ 981 * t ∧ 981 * t ≤ 7848000 := by omega
    obtain ⟨b1, b2⟩ := hb
    obtain ⟨b3, b4⟩ := hb2
    obtain ⟨h1, h2, h3, h4⟩ : 0 ≤ t ∧ t ≤ 8000 ∧ -1000000 ≤ z ∧ z ≤ 1000000 := by omega
    rw [e1]
    clear e1 h
    go_enter Try.func53, Try.ntmps53
    go_wp2_with fail
    go_ret
    exact ⟨rfl, rfl⟩
set_option maxHeartbeats 1000000 in
theorem rraise_any (t z : Int) (w : World) : Calls Try.prog 108 #[.int .i64 t, .int .i64 z] w fun e w' => e = .returned (.int .i64 (raiseV t z)) ∧ w = w' := by
  by_cases h : t < 0 ∨ 8000 < t ∨ z < -1000000 ∨ 1000000 < z
  · have e1 := raise_no h
    rw [← e1]
    clear e1
    go_enter Try.func108, Try.ntmps108
    go_wp2_with fail
    all_goals first
      | (go_ret; exact ⟨rfl, rfl⟩)
      | (exfalso; omega)
  · have e1 := raise_yes h
    have hb := grav_bd (t := t) (by omega) (by omega)
    have hb2 : 0 ≤ 981 * t ∧ 981 * t ≤ 7848000 := by omega
    obtain ⟨b1, b2⟩ := hb
    obtain ⟨b3, b4⟩ := hb2
    obtain ⟨h1, h2, h3, h4⟩ : 0 ≤ t ∧ t ≤ 8000 ∧ -1000000 ≤ z ∧ z ≤ 1000000 := by omega
    rw [e1]
    clear e1 h
    go_enter Try.func108, Try.ntmps108
    go_wp2_with fail
    go_ret
    exact ⟨rfl, rfl⟩
end Go.Proofs.Ytmdledlbkdcmnaa
