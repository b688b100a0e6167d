/-
  Contract of the reference's shape.
  Conditions: none.
-/
import Derived.Test.YtcppgigndpepnaaMat
namespace Go.Proofs.Ytcppgigndpepnaa
open Go.RowKit
set_option maxHeartbeats 4000000 in
theorem rshape_any (v : Value) (a : Mat) (w : World) (h : MatV w v a) : Calls Try.prog 53 #[v] w fun e w' => e = .returned (.int .i64 (matE a)) ∧ Below w.heap.size w w' := by
  obtain ⟨pa, b, o, cap, rfl, h1, h2, h3, h4⟩ := h
  go_enter Try.func53, Try.ntmps53
  go_wp2_with fail
  · go_ret; exact ⟨ret_int (matE_size (by omega)), (by repeat (first | with_reducible exact Below.refl _ _ | with_reducible assumption | with_reducible refine Below.drew ?_ | with_reducible refine Below.setCell ?_ (by first | omega | (simp; omega) | simp) _ | with_reducible refine Below.alloc ?_ (by first | omega | (simp; omega) | simp) _ | with_reducible refine Below.trans ?_ (Below.mono (by with_reducible assumption) (by first | omega | (simp; omega) | simp))))⟩
  · have hz : ¬(a.length < 1 ∨ 3 < a.length) := by omega

    go_loopw [19] (fun x wr => ∃ i : Nat, i ≤ a.length ∧ x = .int .i64 i ∧ Below w.heap.size w wr ∧ (a.take i).all (fun r => r.length == a.length) = true) (fun x _ => a.length - (intOf x).toNat)
    case atStart => exact ⟨0, by omega, rfl, (by repeat (first | with_reducible exact Below.refl _ _ | with_reducible assumption | with_reducible refine Below.drew ?_ | with_reducible refine Below.setCell ?_ (by first | omega | (simp; omega) | simp) _ | with_reducible refine Below.alloc ?_ (by first | omega | (simp; omega) | simp) _ | with_reducible refine Below.trans ?_ (Below.mono (by with_reducible assumption) (by first | omega | (simp; omega) | simp)))), by simp⟩
    case round =>
      obtain ⟨i, hi, rfl, hb, hk⟩ := hrel
      rcases Nat.lt_or_ge i a.length with hlt | hge
      · obtain rfl := h1 (by omega)
        have hx := (after hb).1
        obtain ⟨r, hr⟩ : ∃ r, a[i]? = some r := ⟨_, List.getElem?_eq_getElem hlt⟩
        obtain ⟨u, c0, hu⟩ := h4 i r hr
        replace c0 := (hx _ _ (by simp [c0])).trans c0
        obtain ⟨qa, qb, qo, qc, rfl, q1, q2, q3, q4⟩ := hu
        have hR := Lib.hid hr
        have hn : a.length - (i + 1) < a.length - i := by omega
        clear hr hx
        go_wp2_with fail
        · go_ret; exact ⟨ret_int (matE_row hz (all_bad hR.out (by grind))), (by repeat (first | with_reducible exact Below.refl _ _ | with_reducible assumption | with_reducible refine Below.drew ?_ | with_reducible refine Below.setCell ?_ (by first | omega | (simp; omega) | simp) _ | with_reducible refine Below.alloc ?_ (by first | omega | (simp; omega) | simp) _ | with_reducible refine Below.trans ?_ (Below.mono (by with_reducible assumption) (by first | omega | (simp; omega) | simp))))⟩
        · exact ⟨⟨i + 1, hlt, by simp, hb, all_take_next hk hR.out (by grind)⟩, by simpa [intOf] using hn⟩
      · have hall := all_take_end hk hge
        have hA := Lib.hid hall
        have hd : ¬i < a.length := by omega
        clear hk hall
        go_wp2_with fail
        go_loopw [31] (fun x wr => ∃ i : Nat, i ≤ a.length ∧ x = .int .i64 i ∧ Below w.heap.size w wr ∧ (a.take i).all (fun r => r.all okE) = true) (fun x _ => a.length - (intOf x).toNat)
        case atStart => exact ⟨0, by omega, rfl, hb, by simp⟩
        case round =>
          obtain ⟨k, hk, rfl, hb2, hk2⟩ := hrel
          rcases Nat.lt_or_ge k a.length with hlt2 | hge2
          · obtain rfl := h1 (by omega)
            have hx := (after hb2).1
            obtain ⟨r, hr⟩ : ∃ r, a[k]? = some r := ⟨_, List.getElem?_eq_getElem hlt2⟩
            obtain ⟨u, c0, hu⟩ := h4 k r hr
            replace c0 := (hx _ _ (by simp [c0])).trans c0
            obtain ⟨qa, qb, qo, qc, rfl, q1, q2, q3, q4⟩ := hu
            have hR := Lib.hid hr
            have hn : a.length - (k + 1) < a.length - k := by omega
            have hq3 : qc ≤ 9223372036854775807 := by unfold maxLen at q3; omega
            clear hr hx
            go_wp2_with fail
            go_loopw [37] (fun x wr => ∃ j : Nat, j ≤ r.length ∧ x = .int .i64 j ∧ Below w.heap.size w wr ∧ (r.take j).all okE = true) (fun x _ => r.length - (intOf x).toNat)
            case atStart => exact ⟨0, by omega, rfl, hb2, by simp⟩
            case round =>
              obtain ⟨j, hj, rfl, hb3, hk3⟩ := hrel
              rcases Nat.lt_or_ge j r.length with hlt3 | hge3
              · obtain rfl := q1 (by omega)
                have hx := (after hb3).1
                obtain ⟨y, hy⟩ : ∃ y, r[j]? = some y := ⟨_, List.getElem?_eq_getElem hlt3⟩
                have d0 := q4 j y hy
                replace d0 := (hx _ _ (by simp [d0])).trans d0
                have hY := Lib.hid hy
                have hn3 : r.length - (j + 1) < r.length - j := by omega
                clear hy hx
                go_wp2_with (go_at_call 54; refine (rout_any _ _ (by omega) (by omega) _).mono ?_; rintro e w' ⟨rfl, rfl⟩)
                · have hw : okE y = false := by simp only [okE]; simp only [inB] at *; grind
                  go_ret; exact ⟨ret_int (matE_num hz hA.out (all_bad hR.out (all_bad hY.out hw))), (by repeat (first | with_reducible exact Below.refl _ _ | with_reducible assumption | with_reducible refine Below.drew ?_ | with_reducible refine Below.setCell ?_ (by first | omega | (simp; omega) | simp) _ | with_reducible refine Below.alloc ?_ (by first | omega | (simp; omega) | simp) _ | with_reducible refine Below.trans ?_ (Below.mono (by with_reducible assumption) (by first | omega | (simp; omega) | simp))))⟩
                · have hw : okE y = true := by simp only [okE]; simp only [inB] at *; grind
                  exact ⟨⟨j + 1, hlt3, by simp, hb3, all_take_next hk3 hY.out hw⟩, by simpa [intOf] using hn3⟩
              · have hall3 := all_take_end hk3 hge3
                have hA3 := Lib.hid hall3
                clear hk3 hall3
                go_wp2_with fail
                exact ⟨⟨k + 1, hlt2, by simp, hb3, all_take_next hk2 hR.out hA3.out⟩, by simpa [intOf] using hn⟩
          · have hall2 := all_take_end hk2 hge2
            go_wp2_with fail
            go_ret
            exact ⟨ret_int (matE_ok hz hA.out hall2), (by repeat (first | with_reducible exact Below.refl _ _ | with_reducible assumption | with_reducible refine Below.drew ?_ | with_reducible refine Below.setCell ?_ (by first | omega | (simp; omega) | simp) _ | with_reducible refine Below.alloc ?_ (by first | omega | (simp; omega) | simp) _ | with_reducible refine Below.trans ?_ (Below.mono (by with_reducible assumption) (by first | omega | (simp; omega) | simp))))⟩
  · go_ret; exact ⟨ret_int (matE_size (by omega)), (by repeat (first | with_reducible exact Below.refl _ _ | with_reducible assumption | with_reducible refine Below.drew ?_ | with_reducible refine Below.setCell ?_ (by first | omega | (simp; omega) | simp) _ | with_reducible refine Below.alloc ?_ (by first | omega | (simp; omega) | simp) _ | with_reducible refine Below.trans ?_ (Below.mono (by with_reducible assumption) (by first | omega | (simp; omega) | simp))))⟩
end Go.Proofs.Ytcppgigndpepnaa
