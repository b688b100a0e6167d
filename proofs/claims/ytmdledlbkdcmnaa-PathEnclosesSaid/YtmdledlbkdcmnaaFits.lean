/-
  Contract of path.fits.
  Conditions: none.
-/
import Derived.Test.YtmdledlbkdcmnaaPathPlain
import Derived.Test.YtmdledlbkdcmnaaHeld
namespace Go.Proofs.Ytmdledlbkdcmnaa
open Go.RowKit
theorem some_of' {α : Type} {l : List α} {i : Nat} (h : i < l.length) : ∃ b, l[i]? = some b := ⟨_, List.getElem?_eq_getElem h⟩
theorem part_bd {v s t : Int} (h1 : -20000000000 ≤ v) (h2 : v ≤ 20000000000) (h3 : 0 ≤ s) (h4 : s ≤ 4000) (h5 : 0 ≤ t) (h6 : t ≤ 4000) : -80000000000000 ≤ v * (s - t) ∧ v * (s - t) ≤ 80000000000000 :=
  mul_bd (A := 20000000000) (B := 4000) h1 h2 (by omega) (by omega)
theorem three_true {a b c : BD} (h1 : ¬(b.2.1 * (c.1 - a.1) > a.2.2 * (c.1 - b.1) + c.2.2 * (b.1 - a.1))) (h2 : ¬(b.2.2 * (c.1 - a.1) < a.2.1 * (c.1 - b.1) + c.2.1 * (b.1 - a.1))) : three a b c = true := by
  unfold three
  simp only [Bool.and_eq_true, decide_eq_true_eq]
  omega
theorem three_no {a b c : BD} (h : b.2.1 * (c.1 - a.1) > a.2.2 * (c.1 - b.1) + c.2.2 * (b.1 - a.1) ∨ b.2.2 * (c.1 - a.1) < a.2.1 * (c.1 - b.1) + c.2.1 * (b.1 - a.1)) : three a b c = false := by
  unfold three
  rw [Bool.and_eq_false_iff, decide_eq_false_iff_not, decide_eq_false_iff_not]
  omega
set_option maxRecDepth 100000 in
set_option maxHeartbeats 4000000 in
theorem pfits_any (v : Value) (l : List BD) (w : World) (h : Bnds w v l) (hok : ∀ b ∈ l, okB b) (hl : l.length ≤ 64) : Calls Try.prog 56 #[v] w fun e w' => e = .returned (.bool (fitsB l)) ∧ Below w.heap.size w w' := by
  obtain ⟨pa, b, o, cap, rfl, h1, h2, h3, h4⟩ := h
  have hcap : cap ≤ 9223372036854775807 := by unfold maxLen at h3; omega
  have hK := Lib.hid hok
  clear hok
  go_enter Try.func56, Try.ntmps56
  go_wp2_with fail
  go_loopw [11] (fun x wr => ∃ k : Nat, k ≤ l.length ∧ x = .int .i64 k ∧ Below w.heap.size w wr ∧ ∀ k' j i, k' < k → j < k' → i < j → threeAt l i j k' = true) (fun x _ => l.length - (intOf x).toNat)
  case atStart => exact ⟨0, by omega, rfl, (by repeat (first | with_reducible exact Below.refl _ _ | with_reducible assumption | with_reducible refine Below.drew ?_ | with_reducible refine Below.setCell ?_ (by first | omega | (simp; omega) | simp) _ | with_reducible refine Below.alloc ?_ (by first | omega | (simp; omega) | simp) _ | with_reducible refine Below.trans ?_ (Below.mono (by with_reducible assumption) (by first | omega | (simp; omega) | simp)))), fun _ _ _ h => by omega⟩
  case round =>
    obtain ⟨k, hk, rfl, hb0, hP⟩ := hrel
    rcases Nat.lt_or_ge k l.length with hlt | hge
    · obtain rfl := h1 (by omega)
      obtain ⟨c, hc⟩ := some_of' (l := l) hlt
      obtain ⟨c0, c1, c2⟩ := cB_at (cells_below (h4 k c hc) hb0)
      have hcok := hK.out c (List.mem_of_getElem? hc)
      obtain ⟨⟨ct1, ct2⟩, cl1, cl2, cl3⟩ := hcok
      have cl4 : c.2.1 ≤ 20000000000 := by omega
      have cl5 : -20000000000 ≤ c.2.2 := by omega
      have hC := Lib.hid hc
      have hPP := Lib.hid hP
      have hn : l.length - (k + 1) < l.length - k := by omega
      have hkc : k ≤ cap := by omega
      have hsz := hb0.size
      clear hc hP
      go_wp2_with fail
      have hX := heap_new wr (.cells #[.int .i64 c.1, .int .i64 c.2.1, .int .i64 c.2.2] 124) rfl
      have hBX : Below w.heap.size w (wr.alloc (.cells #[.int .i64 c.1, .int .i64 c.2.1, .int .i64 c.2.2] 124)) := (by repeat (first | with_reducible exact Below.refl _ _ | with_reducible assumption | with_reducible refine Below.drew ?_ | with_reducible refine Below.setCell ?_ (by first | omega | (simp; omega) | simp) _ | with_reducible refine Below.alloc ?_ (by first | omega | (simp; omega) | simp) _ | with_reducible refine Below.trans ?_ (Below.mono (by with_reducible assumption) (by first | omega | (simp; omega) | simp))))
      generalize wr.alloc (.cells #[.int .i64 c.1, .int .i64 c.2.1, .int .i64 c.2.2] 124) = wx at hX hBX ⊢
      clear c0 c1 c2
      generalize wr.heap.size = bx at hX hsz ⊢
      go_loopw [20] (fun x w2 => ∃ j : Nat, j ≤ k ∧ x = .int .i64 j ∧ Below w.heap.size w w2 ∧ w2.heap[bx]? = some (.cells #[.int .i64 c.1, .int .i64 c.2.1, .int .i64 c.2.2] 124 (0, 0)) ∧ ∀ j' i, j' < j → i < j' → threeAt l i j' k = true) (fun x _ => k - (intOf x).toNat)
      case atStart => exact ⟨0, by omega, rfl, hBX, hX, fun _ _ h => by omega⟩
      case round =>
        obtain ⟨j, hj, rfl, hb1, hX1, hP2⟩ := hrel
        rcases Nat.lt_or_ge j k with hjk | hjk
        · obtain ⟨d, hd⟩ := some_of' (l := l) (show j < l.length by omega)
          obtain ⟨d0, d1, d2⟩ := cB_at (cells_below (h4 j d hd) hb1)
          obtain ⟨⟨dt1, dt2⟩, dl1, dl2, dl3⟩ := hK.out d (List.mem_of_getElem? hd)
          have dl4 : d.2.1 ≤ 20000000000 := by omega
          have dl5 : -20000000000 ≤ d.2.2 := by omega
          have hD := Lib.hid hd
          have hPP2 := Lib.hid hP2
          have hn2 : k - (j + 1) < k - j := by omega
          have hjc : j ≤ cap := by omega
          have hsz1 := hb1.size
          have hltX := (Array.getElem?_eq_some_iff.1 hX1).1
          clear hd hP2
          go_wp2_with fail
          have hX2 := heap_alloc (X := .cells #[.int .i64 d.1, .int .i64 d.2.1, .int .i64 d.2.2] 124) hX1
          have hY2 := heap_new wr (.cells #[.int .i64 d.1, .int .i64 d.2.1, .int .i64 d.2.2] 124) rfl
          have hBY : Below w.heap.size w (wr.alloc (.cells #[.int .i64 d.1, .int .i64 d.2.1, .int .i64 d.2.2] 124)) := (by repeat (first | with_reducible exact Below.refl _ _ | with_reducible assumption | with_reducible refine Below.drew ?_ | with_reducible refine Below.setCell ?_ (by first | omega | (simp; omega) | simp) _ | with_reducible refine Below.alloc ?_ (by first | omega | (simp; omega) | simp) _ | with_reducible refine Below.trans ?_ (Below.mono (by with_reducible assumption) (by first | omega | (simp; omega) | simp))))
          generalize wr.alloc (.cells #[.int .i64 d.1, .int .i64 d.2.1, .int .i64 d.2.2] 124) = wy at hX2 hY2 hBY ⊢
          clear d0 d1 d2
          generalize wr.heap.size = by_ at hY2 hsz1 hltX ⊢
          go_loopw [29] (fun x w3 => ∃ i : Nat, i ≤ j ∧ x = .int .i64 i ∧ Below w.heap.size w w3 ∧ w3.heap[bx]? = some (.cells #[.int .i64 c.1, .int .i64 c.2.1, .int .i64 c.2.2] 124 (0, 0)) ∧ w3.heap[by_]? = some (.cells #[.int .i64 d.1, .int .i64 d.2.1, .int .i64 d.2.2] 124 (0, 0)) ∧ ∀ i', i' < i → threeAt l i' j k = true) (fun x _ => j - (intOf x).toNat)
          case atStart => exact ⟨0, by omega, rfl, hBY, hX2, hY2, fun _ h => by omega⟩
          case round =>
            obtain ⟨i, hi, rfl, hb2, hX3, hY3, hP3⟩ := hrel
            rcases Nat.lt_or_ge i j with hij | hij
            · obtain ⟨a, ha⟩ := some_of' (l := l) (show i < l.length by omega)
              obtain ⟨a0, a1, a2⟩ := cB_at (cells_below (h4 i a ha) hb2)
              obtain ⟨⟨at1, at2⟩, al1, al2, al3⟩ := hK.out a (List.mem_of_getElem? ha)
              have al4 : a.2.1 ≤ 20000000000 := by omega
              have al5 : -20000000000 ≤ a.2.2 := by omega
              have hA := Lib.hid ha
              have hPP3 := Lib.hid hP3
              have hn3 : j - (i + 1) < j - i := by omega
              have hsz2 := hb2.size
              have hltX3 := (Array.getElem?_eq_some_iff.1 hX3).1
              have hltY3 := (Array.getElem?_eq_some_iff.1 hY3).1
              have x0 := cell_heap (o := 0) hX3 rfl
              have x1 := cell_heap (o := 1) hX3 rfl
              have x2 := cell_heap (o := 2) hX3 rfl
              have y0 := cell_heap (o := 0) hY3 rfl
              have y1 := cell_heap (o := 1) hY3 rfl
              have y2 := cell_heap (o := 2) hY3 rfl
              obtain ⟨p1, p2⟩ := part_bd dl1 dl4 ct1 ct2 at1 at2
              obtain ⟨p3, p4⟩ := part_bd al5 al3 ct1 ct2 dt1 dt2
              obtain ⟨p5, p6⟩ := part_bd cl5 cl3 dt1 dt2 at1 at2
              obtain ⟨q1, q2⟩ := part_bd dl5 dl3 ct1 ct2 at1 at2
              obtain ⟨q3, q4⟩ := part_bd al1 al4 ct1 ct2 dt1 dt2
              obtain ⟨q5, q6⟩ := part_bd cl1 cl4 dt1 dt2 at1 at2
              have hT := Lib.hid (threeAt_some hA.out hD.out hC.out)
              have hBW : Below w.heap.size w (wr.alloc (.cells #[.int .i64 a.1, .int .i64 a.2.1, .int .i64 a.2.2] 124)) := (by repeat (first | with_reducible exact Below.refl _ _ | with_reducible assumption | with_reducible refine Below.drew ?_ | with_reducible refine Below.setCell ?_ (by first | omega | (simp; omega) | simp) _ | with_reducible refine Below.alloc ?_ (by first | omega | (simp; omega) | simp) _ | with_reducible refine Below.trans ?_ (Below.mono (by with_reducible assumption) (by first | omega | (simp; omega) | simp))))
              clear ha hP3
              go_wp2_with fail
              all_goals first
                | (go_ret; refine ⟨ret_bool ?_, (by repeat (first | with_reducible exact Below.refl _ _ | with_reducible assumption | with_reducible refine Below.drew ?_ | with_reducible refine Below.setCell ?_ (by first | omega | (simp; omega) | simp) _ | with_reducible refine Below.alloc ?_ (by first | omega | (simp; omega) | simp) _ | with_reducible refine Below.trans ?_ (Below.mono (by with_reducible assumption) (by first | omega | (simp; omega) | simp))))⟩; exact (fitsB_no hij hjk hlt (by rw [hT.out]; exact three_no (by first | omega | grind))).symm)
                | (refine ⟨⟨i + 1, hij, by simp, (by repeat (first | with_reducible exact Below.refl _ _ | with_reducible assumption | with_reducible refine Below.drew ?_ | with_reducible refine Below.setCell ?_ (by first | omega | (simp; omega) | simp) _ | with_reducible refine Below.alloc ?_ (by first | omega | (simp; omega) | simp) _ | with_reducible refine Below.trans ?_ (Below.mono (by with_reducible assumption) (by first | omega | (simp; omega) | simp)))), heap_alloc hX3, heap_alloc hY3, fun i' hi' => ?_⟩, by simpa [intOf] using hn3⟩; rcases Nat.lt_or_eq_of_le (Nat.le_of_lt_succ hi') with h | rfl; exact hPP3.out i' h; rw [hT.out]; exact three_true (by omega) (by omega))
                | skip
            · obtain rfl : i = j := by omega
              have hPP3 := Lib.hid hP3
              clear hP3
              go_wp2_with fail
              refine ⟨⟨i + 1, hjk, by simp, hb2, hX3, fun j' i' hj' hi' => ?_⟩, by simpa [intOf] using hn2⟩
              rcases Nat.lt_or_eq_of_le (Nat.le_of_lt_succ hj') with h | rfl
              · exact hPP2.out j' i' h hi'
              · exact hPP3.out i' hi'
        · obtain rfl : j = k := by omega
          have hPP2 := Lib.hid hP2
          clear hP2
          go_wp2_with fail
          refine ⟨⟨j + 1, hlt, by simp, hb1, fun k' j' i' hk' hj' hi' => ?_⟩, by simpa [intOf] using hn⟩
          rcases Nat.lt_or_eq_of_le (Nat.le_of_lt_succ hk') with h | rfl
          · exact hPP.out k' j' i' h hj' hi'
          · exact hPP2.out j' i' hj' hi'
    · have hall : fitsB l = true := fitsB_iff.2 fun i j k' hi hj hk' => hP k' j i (by omega) hj hi
      have hall' := Lib.hid hall
      clear hall
      go_wp2_with fail
      go_ret
      exact ⟨ret_bool hall'.out.symm, hb0⟩
end Go.Proofs.Ytmdledlbkdcmnaa
