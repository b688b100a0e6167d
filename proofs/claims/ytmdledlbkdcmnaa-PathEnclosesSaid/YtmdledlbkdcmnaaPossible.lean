/-
  Contracts of the reference's possible, and of Possible, ours and the reference's.
  Conditions: none.
-/
import Derived.Test.YtmdledlbkdcmnaaRBounds
namespace Go.Proofs.Ytmdledlbkdcmnaa
open Go.RowKit
set_option maxRecDepth 100000 in
set_option maxHeartbeats 4000000 in
theorem rpossible_any (v : Value) (l : List BD) (w : World) (h : Bnds w v l) (hok : ∀ b ∈ l, okB b) (hl : l.length ≤ 64) : Calls Try.prog 72 #[v] w fun e w' => e = .returned (.bool (fitsB l)) ∧ Below w.heap.size w w' := by
  obtain ⟨pa, b, o, cap, rfl, h1, h2, h3, h4⟩ := h
  have hcap : cap ≤ 9223372036854775807 := by unfold maxLen at h3; omega
  have hK := Lib.hid hok
  clear hok
  go_enter Try.func72, Try.ntmps72
  go_wp2_with fail
  go_loopw [8] (fun x wr => ∃ i : Nat, i ≤ l.length ∧ x = .int .i64 i ∧ Below w.heap.size w wr ∧ ∀ i' j k, i' < i → i' < j → j < k → k < l.length → threeAt l i' j k = true) (fun x _ => l.length - (intOf x).toNat)
  case atStart => exact ⟨0, by omega, rfl, (by repeat (first | with_reducible exact Below.refl _ _ | with_reducible assumption | with_reducible refine Below.drew ?_ | with_reducible refine Below.setCell ?_ (by first | omega | (simp; omega) | simp) _ | with_reducible refine Below.alloc ?_ (by first | omega | (simp; omega) | simp) _ | with_reducible refine Below.trans ?_ (Below.mono (by with_reducible assumption) (by first | omega | (simp; omega) | simp)))), fun _ _ _ h => by omega⟩
  case round =>
    obtain ⟨i, hi, rfl, hb0, hP⟩ := hrel
    rcases Nat.lt_or_ge i l.length with hlt | hge
    · obtain rfl := h1 (by omega)
      have hPP := Lib.hid hP
      have hn : l.length - (i + 1) < l.length - i := by omega
      clear hP
      go_wp2_with fail
      go_loopw [4] (fun x w2 => ∃ j : Nat, i < j ∧ j ≤ l.length ∧ x = .int .i64 j ∧ Below w.heap.size w w2 ∧ ∀ j' k, j' < j → i < j' → j' < k → k < l.length → threeAt l i j' k = true) (fun x _ => l.length - (intOf x).toNat)
      case atStart => exact ⟨i + 1, by omega, hlt, by simp, hb0, fun _ _ h h2 => by omega⟩
      case round =>
        obtain ⟨j, hij, hj, rfl, hb1, hP2⟩ := hrel
        rcases Nat.lt_or_ge j l.length with hjl | hjl
        · have hPP2 := Lib.hid hP2
          have hn2 : l.length - (j + 1) < l.length - j := by omega
          clear hP2
          go_wp2_with fail
          go_loopw [5] (fun x w3 => ∃ k : Nat, j < k ∧ k ≤ l.length ∧ x = .int .i64 k ∧ Below w.heap.size w w3 ∧ ∀ k', k' < k → j < k' → threeAt l i j k' = true) (fun x _ => l.length - (intOf x).toNat)
          case atStart => exact ⟨j + 1, by omega, hjl, by simp, hb1, fun _ h h2 => by omega⟩
          case round =>
            obtain ⟨k, hjk, hk, rfl, hb2, hP3⟩ := hrel
            rcases Nat.lt_or_ge k l.length with hkl | hkl
            · obtain ⟨a, ha⟩ := some_of' (l := l) hlt
              obtain ⟨d, hd⟩ := some_of' (l := l) hjl
              obtain ⟨c, hc⟩ := some_of' (l := l) hkl
              obtain ⟨a0, a1, a2⟩ := cB_at (cells_below (h4 i a ha) hb2)
              obtain ⟨d0, d1, d2⟩ := cB_at (cells_below (h4 j d hd) hb2)
              obtain ⟨c0, c1, c2⟩ := cB_at (cells_below (h4 k c hc) hb2)
              have hT := Lib.hid (threeAt_some ha hd hc)
              have hth := Lib.hid (fun w => rthree_any a d c (hK.out a (List.mem_of_getElem? ha)) (hK.out d (List.mem_of_getElem? hd)) (hK.out c (List.mem_of_getElem? hc)) w)
              have hPP3 := Lib.hid hP3
              have hn3 : l.length - (k + 1) < l.length - k := by omega
              clear ha hd hc hP3
              go_wp2_with fail
              have hl := @Later.cell
              refine region_later (by kernel_rfl) (by kernel_rfl) ?_; (repeat (go_big_quiet_step ((go_at_call 109; exact Calls.later (hth.out _))))); refine wpQuiet_nil ?_; rintro _ ⟨x, rfl⟩; obtain ⟨w', hb⟩ := x; (try clear hc hf); (try clear hcM hfM); (try clear hcN hfN); (first | ((first | replace hB := Below.next hB (Nat.le_refl _) hb | replace hB := Below.next1 hB (Nat.le_refl _) hb | replace hB := Below.next2 hB (Nat.le_refl _) hb); (first | replace hM := Below.next hM (Nat.le_refl _) hb | replace hM := Below.next1 hM (Nat.le_refl _) hb | replace hM := Below.next2 hM (Nat.le_refl _) hb); (first | replace hN := Below.next hN (Nat.le_refl _) hb | replace hN := Below.next1 hN (Nat.le_refl _) hb | replace hN := Below.next2 hN (Nat.le_refl _) hb)) | ((first | replace hB := Below.next hB (Nat.le_refl _) hb | replace hB := Below.next1 hB (Nat.le_refl _) hb | replace hB := Below.next2 hB (Nat.le_refl _) hb); (first | replace hM := Below.next hM (Nat.le_refl _) hb | replace hM := Below.next1 hM (Nat.le_refl _) hb | replace hM := Below.next2 hM (Nat.le_refl _) hb); have hN := Below.mid hb) | ((first | replace hB := Below.next hB (Nat.le_refl _) hb | replace hB := Below.next1 hB (Nat.le_refl _) hb | replace hB := Below.next2 hB (Nat.le_refl _) hb); (first | replace hM := Below.next hM (Nat.le_refl _) hb | replace hM := Below.next1 hM (Nat.le_refl _) hb | replace hM := Below.next2 hM (Nat.le_refl _) hb)) | ((first | replace hB := Below.next hB (Nat.le_refl _) hb | replace hB := Below.next1 hB (Nat.le_refl _) hb | replace hB := Below.next2 hB (Nat.le_refl _) hb); have hM := Below.mid hb) | (first | replace hB := Below.next hB (Nat.le_refl _) hb | replace hB := Below.next1 hB (Nat.le_refl _) hb | replace hB := Below.next2 hB (Nat.le_refl _) hb) | have hB := hb); obtain ⟨hc, hf, hz⟩ := after hB; (try (have hq := after hM; obtain ⟨hcM, hfM, hzM⟩ := hq)); (try (have hq := after hN; obtain ⟨hcN, hfN, hzN⟩ := hq)); have hs := hb.size; (try simp at hz); (try simp at hs)
              have hK3 := Below.next hb2 (Nat.le_refl _) hb
              go_wp2_with fail
              · go_ret
                refine ⟨ret_bool ?_, hK3⟩
                exact (fitsB_no hij hjk hkl (by rw [hT.out]; simpa using ‹(!three a d c) = true›)).symm
              · refine ⟨⟨k + 1, by omega, hkl, by simp, hK3, fun k' h1 h2 => ?_⟩, by simpa [intOf] using hn3⟩
                rcases Nat.lt_or_eq_of_le (Nat.le_of_lt_succ h1) with h | rfl
                · exact hPP3.out k' h h2
                · rw [hT.out]; simpa using ‹(!three a d c) = false›
            · obtain rfl : k = l.length := by omega
              have hPP3 := Lib.hid hP3
              clear hP3
              go_wp2_with fail
              refine ⟨⟨j + 1, by omega, hjl, by simp, hb2, fun j' k h1 h2 h3 h4 => ?_⟩, by simpa [intOf] using hn2⟩
              rcases Nat.lt_or_eq_of_le (Nat.le_of_lt_succ h1) with h | rfl
              · exact hPP2.out j' k h h2 h3 h4
              · exact hPP3.out k h4 h3
        · obtain rfl : j = l.length := by omega
          have hPP2 := Lib.hid hP2
          clear hP2
          go_wp2_with fail
          refine ⟨⟨i + 1, hlt, by simp, hb1, fun i' j k h1 h2 h3 h4 => ?_⟩, by simpa [intOf] using hn⟩
          rcases Nat.lt_or_eq_of_le (Nat.le_of_lt_succ h1) with h | rfl
          · exact hPP.out i' j k h h2 h3 h4
          · exact hPP2.out j k (by omega) h2 h3 h4
    · have hall : fitsB l = true := fitsB_iff.2 fun i' j k hi hj hk' => hP i' j k (by omega) hi hj hk'
      have hall' := Lib.hid hall
      clear hall hP
      obtain rfl : i = l.length := by omega
      go_wp2_with fail
      go_ret
      exact ⟨ret_bool hall'.out.symm, hb0⟩
end Go.Proofs.Ytmdledlbkdcmnaa
