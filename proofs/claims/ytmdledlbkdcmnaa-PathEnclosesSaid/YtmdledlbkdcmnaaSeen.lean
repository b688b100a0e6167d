/-
  Slices that hold observations; contracts of Check, Bounce and Behind, ours and the reference's.
  Conditions: none.
-/
import Derived.Test.YtmdledlbkdcmnaaSeenPlain
import Derived.Test.YtmdledlbkdcmnaaStill
namespace Go.Proofs.Ytmdledlbkdcmnaa
open Go.RowKit
/-- The five numbers of the i-th observation lie from the cell o + i * 5 on. -/
def SeenAt (w : World) (b o i : Nat) (s : SN) : Prop :=
  w.cell? ⟨b, o + i * 5, none⟩ = some (.int .i64 s.1) ∧ w.cell? ⟨b, o + i * 5 + 1, none⟩ = some (.int .i64 s.2.1) ∧ w.cell? ⟨b, o + i * 5 + 2, none⟩ = some (.int .i64 s.2.2.1) ∧ w.cell? ⟨b, o + i * 5 + 3, none⟩ = some (.int .i64 s.2.2.2.1) ∧ w.cell? ⟨b, o + i * 5 + 4, none⟩ = some (.int .i64 s.2.2.2.2)
theorem SeenAt.below {w w' : World} {b o i : Nat} {s : SN} (h : SeenAt w b o i s) (hb : Below w.heap.size w w') : SeenAt w' b o i s := by
  obtain ⟨c0, c1, c2, c3, c4⟩ := h
  have hx := (after hb).1
  exact ⟨(hx _ _ (by simp [c0])).trans c0, (hx _ _ (by simp [c1])).trans c1, (hx _ _ (by simp [c2])).trans c2, (hx _ _ (by simp [c3])).trans c3, (hx _ _ (by simp [c4])).trans c4⟩
/-- The slice v holds the observations l. -/
def Seens (w : World) (v : Value) (l : List SN) : Prop :=
  ∃ (pa : Option Addr) (b o cap : Nat), v = .slice pa l.length cap ∧ (0 < l.length → pa = some ⟨b, o, none⟩) ∧ l.length ≤ cap ∧ cap ≤ maxLen ∧ ∀ i s, l[i]? = some s → SeenAt w b o i s
theorem Seens.below {w w' : World} {v : Value} {l : List SN} (h : Seens w v l) (hb : Below w.heap.size w w') : Seens w' v l := by
  obtain ⟨pa, b, o, cap, rfl, h1, h2, h3, h4⟩ := h
  exact ⟨pa, b, o, cap, rfl, h1, h2, h3, fun i s hs => (h4 i s hs).below hb⟩
def cells5 (s : SN) : List Value := [.int .i64 s.1, .int .i64 s.2.1, .int .i64 s.2.2.1, .int .i64 s.2.2.2.1, .int .i64 s.2.2.2.2]
theorem cells5_len (L : List SN) : (L.flatMap cells5).length = L.length * 5 := by
  induction L with
  | nil => rfl
  | cons d L ih => simp only [List.flatMap_cons, List.length_append, ih, List.length_cons]; simp [cells5]; omega
theorem cells5_at : ∀ (L : List SN) (i : Nat) (s : SN), L[i]? = some s → (L.flatMap cells5)[i * 5]? = some (.int .i64 s.1) ∧ (L.flatMap cells5)[i * 5 + 1]? = some (.int .i64 s.2.1) ∧ (L.flatMap cells5)[i * 5 + 2]? = some (.int .i64 s.2.2.1) ∧ (L.flatMap cells5)[i * 5 + 3]? = some (.int .i64 s.2.2.2.1) ∧ (L.flatMap cells5)[i * 5 + 4]? = some (.int .i64 s.2.2.2.2)
  | [], i, p, h => by simp at h
  | d :: L, 0, p, h => by
    obtain rfl : d = p := by simpa using h
    simp [cells5]
  | d :: L, i + 1, p, h => by
    obtain ⟨a, b, c, e, f⟩ := cells5_at L i p (by simpa using h)
    have e0 : (i + 1) * 5 = i * 5 + 5 := by omega
    have e1 : (i + 1) * 5 + 1 = (i * 5 + 1) + 5 := by omega
    have e2 : (i + 1) * 5 + 2 = (i * 5 + 2) + 5 := by omega
    have e3 : (i + 1) * 5 + 3 = (i * 5 + 3) + 5 := by omega
    have e4 : (i + 1) * 5 + 4 = (i * 5 + 4) + 5 := by omega
    rw [e1, e2, e3, e4, e0]
    exact ⟨by simpa [List.flatMap_cons, cells5] using a, by simpa [List.flatMap_cons, cells5] using b, by simpa [List.flatMap_cons, cells5] using c, by simpa [List.flatMap_cons, cells5] using e, by simpa [List.flatMap_cons, cells5] using f⟩
theorem cells5_one (L : List SN) : ∀ u ∈ L.flatMap cells5, u.oneCell' = true := by
  intro u hu
  simp only [List.mem_flatMap, cells5] at hu
  obtain ⟨s, _, hs⟩ := hu
  simp only [List.mem_cons, List.not_mem_nil, or_false] at hs
  rcases hs with rfl | rfl | rfl | rfl | rfl <;> rfl
/-- The cells of the observations, one behind the other. -/
theorem seens_cells : ∀ (L : List SN) (w : World) (b o : Nat), (∀ i s, L[i]? = some s → SeenAt w b o i s) → ∀ j u, (L.flatMap cells5)[j]? = some u → w.cell? ⟨b, o + j, none⟩ = some u
  | [], _, _, _, _, j, u, h => by simp at h
  | d :: L, w, b, o, hs, j, u, h => by
    rcases Nat.lt_or_ge j 5 with hj | hj
    · obtain ⟨c0, c1, c2, c3, c4⟩ := hs 0 d rfl
      rw [List.flatMap_cons, List.getElem?_append_left (by simpa [cells5] using hj)] at h
      match j, hj, h with
      | 0, _, h => obtain rfl := Option.some.inj h; simpa using c0
      | 1, _, h => obtain rfl := Option.some.inj h; simpa using c1
      | 2, _, h => obtain rfl := Option.some.inj h; simpa using c2
      | 3, _, h => obtain rfl := Option.some.inj h; simpa using c3
      | 4, _, h => obtain rfl := Option.some.inj h; simpa using c4
    · rw [List.flatMap_cons, List.getElem?_append_right (by simpa [cells5] using hj)] at h
      have ih := seens_cells L w b (o + 5) (fun i s hi => by
        have := hs (i + 1) s (by simpa using hi)
        have e : o + (i + 1) * 5 = o + 5 + i * 5 := by omega
        unfold SeenAt at this ⊢
        rw [e] at this
        exact this) (j - 5) u (by simpa [cells5] using h)
      rw [← ih]
      congr 2
      omega
/-- The world holds the observations in the slice v, made since. -/
theorem seens_own {t : TypeId} {base : Nat} {w : World} {v : Value} {L : List SN} (h : w.ownsRow base t 5 v L.length (L.flatMap cells5)) : Seens w v L := by
  rcases h.2 with ⟨rfl, h0⟩ | ⟨g, cap, cur, rfl, hg, hh, h1, h2, h3, h4⟩
  · refine ⟨none, 0, 0, 0, by rw [h0], fun hp => by omega, by omega, by omega, fun i p hp => ?_⟩
    have := (List.getElem?_eq_some_iff.1 hp).1
    omega
  · refine ⟨_, g, 0, cap, rfl, fun _ => rfl, h1, h2, fun i p hp => ?_⟩
    have hi := (List.getElem?_eq_some_iff.1 hp).1
    obtain ⟨a, b, c, d, e⟩ := cells5_at L i p hp
    have e0 := World.ownsRow.cellAt h (i * 5) (by omega)
    have e1 := World.ownsRow.cellAt h (i * 5 + 1) (by omega)
    have e2 := World.ownsRow.cellAt h (i * 5 + 2) (by omega)
    have e3 := World.ownsRow.cellAt h (i * 5 + 3) (by omega)
    have e4 := World.ownsRow.cellAt h (i * 5 + 4) (by omega)
    unfold SeenAt
    rw [Nat.zero_add, e0, e1, e2, e3, e4]
    exact ⟨a, b, c, d, e⟩
theorem from_any (n lo hi : Int) (w : World) : Calls Try.prog 105 #[.int .i64 n, .int .i64 lo, .int .i64 hi] w fun e w' => e = .returned (.bool (inR n lo hi)) ∧ w = w' := by
  go_enter Try.func105, Try.ntmps105
  go_wp2_with fail
  all_goals (go_ret; refine ⟨ret_bool ?_, rfl⟩; simp only [inR]; grind)
theorem between_any (n lo hi : Int) (w : World) : Calls Try.prog 117 #[.int .i64 n, .int .i64 lo, .int .i64 hi] w fun e w' => e = .returned (.bool (inR n lo hi)) ∧ w = w' := by
  go_enter Try.func117, Try.ntmps117
  go_wp2_with fail
  all_goals (go_ret; refine ⟨ret_bool ?_, rfl⟩; simp only [inR]; grind)
theorem ret_chk {w w' : World} {k a b : Int} (h : a = b) (hb : Below w.heap.size w w') : (∃ k' : Int, Ending.returned (.tuple #[.int .i64 k, .int .i64 a]) = .returned (.tuple #[.int .i64 k', .int .i64 b])) ∧ Below w.heap.size w w' := ⟨⟨k, by rw [h]⟩, hb⟩
theorem okS_of {s : SN} (a : inR s.1 0 4000 = true) (b : inR s.2.1 (-300000) 300000 = true) (c : inR s.2.2.1 (-50000) 50000 = true) (d : inR s.2.2.2.1 0 50000 = true) (e : inR s.2.2.2.2 1 1000 = true) : okS s = true := by unfold okS; rw [a, b, c, d, e]; rfl
theorem okS_parts {s : SN} (h : okS s = true) : inR s.1 0 4000 = true ∧ inR s.2.1 (-300000) 300000 = true ∧ inR s.2.2.1 (-50000) 50000 = true ∧ inR s.2.2.2.1 0 50000 = true ∧ inR s.2.2.2.2 1 1000 = true := by
  simpa only [okS, Bool.and_eq_true, and_assoc] using h
theorem chkAt_first {l : List SN} {s : SN} (h : l[0]? = some s) (hk : okS s = true) : chkAt l 0 = chkAt l 1 := chkAt_next h hk (by have := (okS_iff.1 hk).1; simp only [prevT]; omega)
set_option maxRecDepth 100000 in
set_option maxHeartbeats 4000000 in
theorem check_any (v : Value) (l : List SN) (w : World) (h : Seens w v l) : Calls Try.prog 66 #[v] w fun e w' => (∃ k : Int, e = .returned (.tuple #[.int .i64 k, .int .i64 (chkE l)])) ∧ Below w.heap.size w w' := by
  obtain ⟨pa, b, o, cap, rfl, h1, h2, h3, h4⟩ := h
  have hcap : cap ≤ 9223372036854775807 := by unfold maxLen at h3; omega
  rcases Nat.lt_or_ge 64 l.length with hlong | hshort
  · have e1 : chkE l = 9 := by unfold chkE; rw [if_pos hlong]
    rw [e1]
    go_enter Try.func66, Try.ntmps66
    go_wp2_with fail
    go_ret2
    exact ret_chk rfl (by repeat (first | with_reducible exact Below.refl _ _ | with_reducible assumption | with_reducible refine Below.drew ?_ | with_reducible refine Below.setCell ?_ (by first | omega | (simp; omega) | simp) _ | with_reducible refine Below.alloc ?_ (by first | omega | (simp; omega) | simp) _ | with_reducible refine Below.trans ?_ (Below.mono (by with_reducible assumption) (by first | omega | (simp; omega) | simp))))
  · have e1 : chkE l = chkAt l 0 := by unfold chkE; rw [if_neg (by omega)]; rfl
    have hE := Lib.hid e1
    clear e1
    go_enter Try.func66, Try.ntmps66
    go_wp2_with fail
    go_loopw [11] (fun x wr => ∃ i : Nat, i ≤ l.length ∧ x = .int .i64 i ∧ Below w.heap.size w wr ∧ chkE l = chkAt l i) (fun x _ => l.length - (intOf x).toNat)
    case atStart => exact ⟨0, by omega, rfl, (by repeat (first | with_reducible exact Below.refl _ _ | with_reducible assumption | with_reducible refine Below.drew ?_ | with_reducible refine Below.setCell ?_ (by first | omega | (simp; omega) | simp) _ | with_reducible refine Below.alloc ?_ (by first | omega | (simp; omega) | simp) _ | with_reducible refine Below.trans ?_ (Below.mono (by with_reducible assumption) (by first | omega | (simp; omega) | simp)))), hE.out⟩
    case round =>
      obtain ⟨i, hi, rfl, hb0, hk0⟩ := hrel
      have hk := Lib.hid hk0
      clear hk0
      rcases Nat.lt_or_ge i l.length with hlt | hge
      · obtain rfl := h1 (by omega)
        obtain ⟨s, hs⟩ : ∃ s, l[i]? = some s := ⟨_, List.getElem?_eq_getElem hlt⟩
        obtain ⟨c0, c1, c2, c3, c4⟩ := (h4 i s hs).below hb0
        have hS := Lib.hid hs
        have hsz := hb0.size
        have hn : l.length - (i + 1) < l.length - i := by omega
        clear hs
        by_cases hok : okS s = true
        · obtain ⟨e1, e2, e3, e4, e5⟩ := okS_parts hok
          have hO := Lib.hid hok
          clear hok
          rcases Nat.eq_zero_or_pos i with rfl | hpos
          · simp only [Nat.zero_mul, Nat.add_zero] at c0 c1 c2 c3 c4
            have hnx := Lib.hid (chkAt_first hS.out hO.out)
            go_wp2_with (go_at_call 105; refine (from_any _ _ _ _).mono ?_; rintro e w' ⟨rfl, rfl⟩)
            have hl := @Later.cell
            refine region_later (by kernel_rfl) (by kernel_rfl) ?_; (repeat (go_big_quiet_step (fail))); refine wpQuiet_nil ?_; rintro _ ⟨x, rfl⟩; obtain ⟨w', hb⟩ := x; (try clear hc hf); (try clear hcM hfM); (try clear hcN hfN); (first | ((first | replace hB := Below.next hB (Nat.le_refl _) hb | replace hB := Below.next1 hB (Nat.le_refl _) hb | replace hB := Below.next2 hB (Nat.le_refl _) hb); (first | replace hM := Below.next hM (Nat.le_refl _) hb | replace hM := Below.next1 hM (Nat.le_refl _) hb | replace hM := Below.next2 hM (Nat.le_refl _) hb); (first | replace hN := Below.next hN (Nat.le_refl _) hb | replace hN := Below.next1 hN (Nat.le_refl _) hb | replace hN := Below.next2 hN (Nat.le_refl _) hb)) | ((first | replace hB := Below.next hB (Nat.le_refl _) hb | replace hB := Below.next1 hB (Nat.le_refl _) hb | replace hB := Below.next2 hB (Nat.le_refl _) hb); (first | replace hM := Below.next hM (Nat.le_refl _) hb | replace hM := Below.next1 hM (Nat.le_refl _) hb | replace hM := Below.next2 hM (Nat.le_refl _) hb); have hN := Below.mid hb) | ((first | replace hB := Below.next hB (Nat.le_refl _) hb | replace hB := Below.next1 hB (Nat.le_refl _) hb | replace hB := Below.next2 hB (Nat.le_refl _) hb); (first | replace hM := Below.next hM (Nat.le_refl _) hb | replace hM := Below.next1 hM (Nat.le_refl _) hb | replace hM := Below.next2 hM (Nat.le_refl _) hb)) | ((first | replace hB := Below.next hB (Nat.le_refl _) hb | replace hB := Below.next1 hB (Nat.le_refl _) hb | replace hB := Below.next2 hB (Nat.le_refl _) hb); have hM := Below.mid hb) | (first | replace hB := Below.next hB (Nat.le_refl _) hb | replace hB := Below.next1 hB (Nat.le_refl _) hb | replace hB := Below.next2 hB (Nat.le_refl _) hb) | have hB := hb); obtain ⟨hc, hf, hz⟩ := after hB; (try (have hq := after hM; obtain ⟨hcM, hfM, hzM⟩ := hq)); (try (have hq := after hN; obtain ⟨hcN, hfN, hzN⟩ := hq)); have hs := hb.size; (try simp at hz); (try simp at hs)
            have hK := Below.next1 hb0 (Nat.le_refl _) hb
            go_wp2_with fail
            exact ⟨⟨1, hlt, rfl, hK, hk.out.trans hnx.out⟩, by simpa [intOf] using hn⟩
          · obtain ⟨j, rfl⟩ : ∃ j, i = j + 1 := ⟨i - 1, by omega⟩
            have hn' : l.length - ((j : Int) + 1 + 1).toNat < l.length - (j + 1) := by omega
            obtain ⟨r, hr⟩ : ∃ r, l[j]? = some r := ⟨_, List.getElem?_eq_getElem (by omega)⟩
            obtain ⟨d0, _, _, _, _⟩ := (h4 j r hr).below hb0
            have hR := Lib.hid hr
            clear hr
            go_wp2_with (go_at_call 105; refine (from_any _ _ _ _).mono ?_; rintro e w' ⟨rfl, rfl⟩)
            have y0 : (wr.alloc (.cells #[.int .i64 s.1, .int .i64 s.2.1, .int .i64 s.2.2.1, .int .i64 s.2.2.2.1, .int .i64 s.2.2.2.2] 38)).cell? ⟨wr.heap.size, 0, none⟩ = some (.int .i64 s.1) := by simp [go_sem]
            have y1 := (cell_alloc_old wr (.cells #[.int .i64 s.1, .int .i64 s.2.1, .int .i64 s.2.2.1, .int .i64 s.2.2.2.1, .int .i64 s.2.2.2.2] 38) b (o + j * 5) (by simp [d0])).trans d0
            have hl := @Later.cell
            refine region_later (by kernel_rfl) (by kernel_rfl) ?_; (repeat (go_big_quiet_step (fail))); refine wpQuiet_nil ?_; rintro _ ⟨x, rfl⟩; obtain ⟨w', hb⟩ := x; (try clear hc hf); (try clear hcM hfM); (try clear hcN hfN); (first | ((first | replace hB := Below.next hB (Nat.le_refl _) hb | replace hB := Below.next1 hB (Nat.le_refl _) hb | replace hB := Below.next2 hB (Nat.le_refl _) hb); (first | replace hM := Below.next hM (Nat.le_refl _) hb | replace hM := Below.next1 hM (Nat.le_refl _) hb | replace hM := Below.next2 hM (Nat.le_refl _) hb); (first | replace hN := Below.next hN (Nat.le_refl _) hb | replace hN := Below.next1 hN (Nat.le_refl _) hb | replace hN := Below.next2 hN (Nat.le_refl _) hb)) | ((first | replace hB := Below.next hB (Nat.le_refl _) hb | replace hB := Below.next1 hB (Nat.le_refl _) hb | replace hB := Below.next2 hB (Nat.le_refl _) hb); (first | replace hM := Below.next hM (Nat.le_refl _) hb | replace hM := Below.next1 hM (Nat.le_refl _) hb | replace hM := Below.next2 hM (Nat.le_refl _) hb); have hN := Below.mid hb) | ((first | replace hB := Below.next hB (Nat.le_refl _) hb | replace hB := Below.next1 hB (Nat.le_refl _) hb | replace hB := Below.next2 hB (Nat.le_refl _) hb); (first | replace hM := Below.next hM (Nat.le_refl _) hb | replace hM := Below.next1 hM (Nat.le_refl _) hb | replace hM := Below.next2 hM (Nat.le_refl _) hb)) | ((first | replace hB := Below.next hB (Nat.le_refl _) hb | replace hB := Below.next1 hB (Nat.le_refl _) hb | replace hB := Below.next2 hB (Nat.le_refl _) hb); have hM := Below.mid hb) | (first | replace hB := Below.next hB (Nat.le_refl _) hb | replace hB := Below.next1 hB (Nat.le_refl _) hb | replace hB := Below.next2 hB (Nat.le_refl _) hb) | have hB := hb); obtain ⟨hc, hf, hz⟩ := after hB; (try (have hq := after hM; obtain ⟨hcM, hfM, hzM⟩ := hq)); (try (have hq := after hN; obtain ⟨hcN, hfN, hzN⟩ := hq)); have hs := hb.size; (try simp at hz); (try simp at hs)
            have hK := Below.next1 hb0 (Nat.le_refl _) hb
            go_wp2_with fail
            · go_ret2
              exact ret_chk (by rw [hk.out]; exact (chkAt_order hS.out hO.out (by rw [prevT_succ hR.out]; assumption)).symm) hK
            · exact ⟨⟨j + 1 + 1, hlt, by simp, hK, hk.out.trans (chkAt_next hS.out hO.out (by rw [prevT_succ hR.out]; omega))⟩, by simpa [intOf] using hn'⟩
        · have hN : okS s = false := by simpa using hok
          have hbad := Lib.hid (hk.out.trans (chkAt_bad hS.out hN))
          clear hok
          go_wp2_with (go_at_call 105; refine (from_any _ _ _ _).mono ?_; rintro e w' ⟨rfl, rfl⟩)
          all_goals first
            | (go_ret2; exact ret_chk hbad.out.symm (by repeat (first | with_reducible exact Below.refl _ _ | with_reducible assumption | with_reducible refine Below.drew ?_ | with_reducible refine Below.setCell ?_ (by first | omega | (simp; omega) | simp) _ | with_reducible refine Below.alloc ?_ (by first | omega | (simp; omega) | simp) _ | with_reducible refine Below.trans ?_ (Below.mono (by with_reducible assumption) (by first | omega | (simp; omega) | simp)))))
            | (exfalso; have := okS_of ‹_› ‹_› ‹_› ‹_› (by simpa using ‹(!inR s.2.2.2.2 1 1000) = false›); rw [hN] at this; cases this)
      · go_wp2_with fail
        go_ret2
        exact ret_chk (by rw [hk.out]; exact (chkAt_end hge).symm) hb0
set_option maxRecDepth 100000 in
set_option maxHeartbeats 4000000 in
theorem rcheck_any (v : Value) (l : List SN) (w : World) (h : Seens w v l) : Calls Try.prog 96 #[v] w fun e w' => (∃ k : Int, e = .returned (.tuple #[.int .i64 k, .int .i64 (chkE l)])) ∧ Below w.heap.size w w' := by
  obtain ⟨pa, b, o, cap, rfl, h1, h2, h3, h4⟩ := h
  have hcap : cap ≤ 9223372036854775807 := by unfold maxLen at h3; omega
  rcases Nat.lt_or_ge 64 l.length with hlong | hshort
  · have e1 : chkE l = 9 := by unfold chkE; rw [if_pos hlong]
    rw [e1]
    go_enter Try.func96, Try.ntmps96
    go_wp2_with fail
    go_ret2
    exact ret_chk rfl (by repeat (first | with_reducible exact Below.refl _ _ | with_reducible assumption | with_reducible refine Below.drew ?_ | with_reducible refine Below.setCell ?_ (by first | omega | (simp; omega) | simp) _ | with_reducible refine Below.alloc ?_ (by first | omega | (simp; omega) | simp) _ | with_reducible refine Below.trans ?_ (Below.mono (by with_reducible assumption) (by first | omega | (simp; omega) | simp))))
  · have e1 : chkE l = chkAt l 0 := by unfold chkE; rw [if_neg (by omega)]; rfl
    have hE := Lib.hid e1
    clear e1
    go_enter Try.func96, Try.ntmps96
    go_wp2_with fail
    go_loopw [11] (fun x wr => ∃ i : Nat, i ≤ l.length ∧ x = .int .i64 i ∧ Below w.heap.size w wr ∧ chkE l = chkAt l i) (fun x _ => l.length - (intOf x).toNat)
    case atStart => exact ⟨0, by omega, rfl, (by repeat (first | with_reducible exact Below.refl _ _ | with_reducible assumption | with_reducible refine Below.drew ?_ | with_reducible refine Below.setCell ?_ (by first | omega | (simp; omega) | simp) _ | with_reducible refine Below.alloc ?_ (by first | omega | (simp; omega) | simp) _ | with_reducible refine Below.trans ?_ (Below.mono (by with_reducible assumption) (by first | omega | (simp; omega) | simp)))), hE.out⟩
    case round =>
      obtain ⟨i, hi, rfl, hb0, hk0⟩ := hrel
      have hk := Lib.hid hk0
      clear hk0
      rcases Nat.lt_or_ge i l.length with hlt | hge
      · obtain rfl := h1 (by omega)
        obtain ⟨s, hs⟩ : ∃ s, l[i]? = some s := ⟨_, List.getElem?_eq_getElem hlt⟩
        obtain ⟨c0, c1, c2, c3, c4⟩ := (h4 i s hs).below hb0
        have hS := Lib.hid hs
        have hsz := hb0.size
        have hn : l.length - (i + 1) < l.length - i := by omega
        clear hs
        by_cases hok : okS s = true
        · obtain ⟨e1, e2, e3, e4, e5⟩ := okS_parts hok
          have hO := Lib.hid hok
          clear hok
          rcases Nat.eq_zero_or_pos i with rfl | hpos
          · simp only [Nat.zero_mul, Nat.add_zero] at c0 c1 c2 c3 c4
            have hnx := Lib.hid (chkAt_first hS.out hO.out)
            go_wp2_with (go_at_call 117; refine (between_any _ _ _ _).mono ?_; rintro e w' ⟨rfl, rfl⟩)
            have hl := @Later.cell
            refine region_later (by kernel_rfl) (by kernel_rfl) ?_; (repeat (go_big_quiet_step (fail))); refine wpQuiet_nil ?_; rintro _ ⟨x, rfl⟩; obtain ⟨w', hb⟩ := x; (try clear hc hf); (try clear hcM hfM); (try clear hcN hfN); (first | ((first | replace hB := Below.next hB (Nat.le_refl _) hb | replace hB := Below.next1 hB (Nat.le_refl _) hb | replace hB := Below.next2 hB (Nat.le_refl _) hb); (first | replace hM := Below.next hM (Nat.le_refl _) hb | replace hM := Below.next1 hM (Nat.le_refl _) hb | replace hM := Below.next2 hM (Nat.le_refl _) hb); (first | replace hN := Below.next hN (Nat.le_refl _) hb | replace hN := Below.next1 hN (Nat.le_refl _) hb | replace hN := Below.next2 hN (Nat.le_refl _) hb)) | ((first | replace hB := Below.next hB (Nat.le_refl _) hb | replace hB := Below.next1 hB (Nat.le_refl _) hb | replace hB := Below.next2 hB (Nat.le_refl _) hb); (first | replace hM := Below.next hM (Nat.le_refl _) hb | replace hM := Below.next1 hM (Nat.le_refl _) hb | replace hM := Below.next2 hM (Nat.le_refl _) hb); have hN := Below.mid hb) | ((first | replace hB := Below.next hB (Nat.le_refl _) hb | replace hB := Below.next1 hB (Nat.le_refl _) hb | replace hB := Below.next2 hB (Nat.le_refl _) hb); (first | replace hM := Below.next hM (Nat.le_refl _) hb | replace hM := Below.next1 hM (Nat.le_refl _) hb | replace hM := Below.next2 hM (Nat.le_refl _) hb)) | ((first | replace hB := Below.next hB (Nat.le_refl _) hb | replace hB := Below.next1 hB (Nat.le_refl _) hb | replace hB := Below.next2 hB (Nat.le_refl _) hb); have hM := Below.mid hb) | (first | replace hB := Below.next hB (Nat.le_refl _) hb | replace hB := Below.next1 hB (Nat.le_refl _) hb | replace hB := Below.next2 hB (Nat.le_refl _) hb) | have hB := hb); obtain ⟨hc, hf, hz⟩ := after hB; (try (have hq := after hM; obtain ⟨hcM, hfM, hzM⟩ := hq)); (try (have hq := after hN; obtain ⟨hcN, hfN, hzN⟩ := hq)); have hs := hb.size; (try simp at hz); (try simp at hs)
            have hK := Below.next1 hb0 (Nat.le_refl _) hb
            go_wp2_with fail
            exact ⟨⟨1, hlt, rfl, hK, hk.out.trans hnx.out⟩, by simpa [intOf] using hn⟩
          · obtain ⟨j, rfl⟩ : ∃ j, i = j + 1 := ⟨i - 1, by omega⟩
            have hn' : l.length - ((j : Int) + 1 + 1).toNat < l.length - (j + 1) := by omega
            obtain ⟨r, hr⟩ : ∃ r, l[j]? = some r := ⟨_, List.getElem?_eq_getElem (by omega)⟩
            obtain ⟨d0, _, _, _, _⟩ := (h4 j r hr).below hb0
            have hR := Lib.hid hr
            clear hr
            go_wp2_with (go_at_call 117; refine (between_any _ _ _ _).mono ?_; rintro e w' ⟨rfl, rfl⟩)
            have y0 : (wr.alloc (.cells #[.int .i64 s.1, .int .i64 s.2.1, .int .i64 s.2.2.1, .int .i64 s.2.2.2.1, .int .i64 s.2.2.2.2] 38)).cell? ⟨wr.heap.size, 0, none⟩ = some (.int .i64 s.1) := by simp [go_sem]
            have y1 := (cell_alloc_old wr (.cells #[.int .i64 s.1, .int .i64 s.2.1, .int .i64 s.2.2.1, .int .i64 s.2.2.2.1, .int .i64 s.2.2.2.2] 38) b (o + j * 5) (by simp [d0])).trans d0
            have hl := @Later.cell
            refine region_later (by kernel_rfl) (by kernel_rfl) ?_; (repeat (go_big_quiet_step (fail))); refine wpQuiet_nil ?_; rintro _ ⟨x, rfl⟩; obtain ⟨w', hb⟩ := x; (try clear hc hf); (try clear hcM hfM); (try clear hcN hfN); (first | ((first | replace hB := Below.next hB (Nat.le_refl _) hb | replace hB := Below.next1 hB (Nat.le_refl _) hb | replace hB := Below.next2 hB (Nat.le_refl _) hb); (first | replace hM := Below.next hM (Nat.le_refl _) hb | replace hM := Below.next1 hM (Nat.le_refl _) hb | replace hM := Below.next2 hM (Nat.le_refl _) hb); (first | replace hN := Below.next hN (Nat.le_refl _) hb | replace hN := Below.next1 hN (Nat.le_refl _) hb | replace hN := Below.next2 hN (Nat.le_refl _) hb)) | ((first | replace hB := Below.next hB (Nat.le_refl _) hb | replace hB := Below.next1 hB (Nat.le_refl _) hb | replace hB := Below.next2 hB (Nat.le_refl _) hb); (first | replace hM := Below.next hM (Nat.le_refl _) hb | replace hM := Below.next1 hM (Nat.le_refl _) hb | replace hM := Below.next2 hM (Nat.le_refl _) hb); have hN := Below.mid hb) | ((first | replace hB := Below.next hB (Nat.le_refl _) hb | replace hB := Below.next1 hB (Nat.le_refl _) hb | replace hB := Below.next2 hB (Nat.le_refl _) hb); (first | replace hM := Below.next hM (Nat.le_refl _) hb | replace hM := Below.next1 hM (Nat.le_refl _) hb | replace hM := Below.next2 hM (Nat.le_refl _) hb)) | ((first | replace hB := Below.next hB (Nat.le_refl _) hb | replace hB := Below.next1 hB (Nat.le_refl _) hb | replace hB := Below.next2 hB (Nat.le_refl _) hb); have hM := Below.mid hb) | (first | replace hB := Below.next hB (Nat.le_refl _) hb | replace hB := Below.next1 hB (Nat.le_refl _) hb | replace hB := Below.next2 hB (Nat.le_refl _) hb) | have hB := hb); obtain ⟨hc, hf, hz⟩ := after hB; (try (have hq := after hM; obtain ⟨hcM, hfM, hzM⟩ := hq)); (try (have hq := after hN; obtain ⟨hcN, hfN, hzN⟩ := hq)); have hs := hb.size; (try simp at hz); (try simp at hs)
            have hK := Below.next1 hb0 (Nat.le_refl _) hb
            go_wp2_with fail
            · go_ret2
              exact ret_chk (by rw [hk.out]; exact (chkAt_order hS.out hO.out (by rw [prevT_succ hR.out]; assumption)).symm) hK
            · exact ⟨⟨j + 1 + 1, hlt, by simp, hK, hk.out.trans (chkAt_next hS.out hO.out (by rw [prevT_succ hR.out]; omega))⟩, by simpa [intOf] using hn'⟩
        · have hN : okS s = false := by simpa using hok
          have hbad := Lib.hid (hk.out.trans (chkAt_bad hS.out hN))
          clear hok
          go_wp2_with (go_at_call 117; refine (between_any _ _ _ _).mono ?_; rintro e w' ⟨rfl, rfl⟩)
          all_goals first
            | (go_ret2; exact ret_chk hbad.out.symm (by repeat (first | with_reducible exact Below.refl _ _ | with_reducible assumption | with_reducible refine Below.drew ?_ | with_reducible refine Below.setCell ?_ (by first | omega | (simp; omega) | simp) _ | with_reducible refine Below.alloc ?_ (by first | omega | (simp; omega) | simp) _ | with_reducible refine Below.trans ?_ (Below.mono (by with_reducible assumption) (by first | omega | (simp; omega) | simp)))))
            | (exfalso; have := okS_of ‹_› ‹_› ‹_› ‹_› (by simpa using ‹(!inR s.2.2.2.2 1 1000) = false›); rw [hN] at this; cases this)
      · go_wp2_with fail
        go_ret2
        exact ret_chk (by rw [hk.out]; exact (chkAt_end hge).symm) hb0
end Go.Proofs.Ytmdledlbkdcmnaa
