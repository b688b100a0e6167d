/-
  Slices that hold rows of numbers; contracts of matrix and shape.
  Conditions: none.
-/
import Derived.Test.YtcppgigndpepnaaMatPlain
import Derived.Test.YtcppgigndpepnaaLine
namespace Go.Proofs.Ytcppgigndpepnaa
open Go.RowKit
/-- The slice v holds the numbers l. -/
def Row (w : World) (v : Value) (l : List Int) : Prop :=
  ∃ (pa : Option Addr) (b o cap : Nat), v = .slice pa l.length cap ∧ (0 < l.length → pa = some ⟨b, o, none⟩) ∧ l.length ≤ cap ∧ cap ≤ maxLen ∧ ∀ i x, l[i]? = some x → w.cell? ⟨b, o + i, none⟩ = some (.int .i64 x)
/-- The slice v holds the rows a. -/
def MatV (w : World) (v : Value) (a : Mat) : Prop :=
  ∃ (pa : Option Addr) (b o cap : Nat), v = .slice pa a.length cap ∧ (0 < a.length → pa = some ⟨b, o, none⟩) ∧ a.length ≤ cap ∧ cap ≤ maxLen ∧ ∀ i r, a[i]? = some r → ∃ u, w.cell? ⟨b, o + i, none⟩ = some u ∧ Row w u r
theorem Row.below {w w' : World} {v : Value} {l : List Int} (h : Row w v l) (hb : Below w.heap.size w w') : Row w' v l := by
  obtain ⟨pa, b, o, cap, rfl, h1, h2, h3, h4⟩ := h
  refine ⟨pa, b, o, cap, rfl, h1, h2, h3, fun i x hx => ?_⟩
  have c := h4 i x hx
  exact ((after hb).1 _ _ (by simp [c])).trans c
theorem MatV.below {w w' : World} {v : Value} {a : Mat} (h : MatV w v a) (hb : Below w.heap.size w w') : MatV w' v a := by
  obtain ⟨pa, b, o, cap, rfl, h1, h2, h3, h4⟩ := h
  refine ⟨pa, b, o, cap, rfl, h1, h2, h3, fun i r hr => ?_⟩
  obtain ⟨u, c, hu⟩ := h4 i r hr
  exact ⟨u, ((after hb).1 _ _ (by simp [c])).trans c, hu.below hb⟩
theorem all_take_next {α : Type} {l : List α} {f : α → Bool} {i : Nat} {x : α} (h : (l.take i).all f = true) (hx : l[i]? = some x) (hk : f x = true) : (l.take (i + 1)).all f = true := by
  rw [List.take_add_one, hx]; simp only [Option.toList_some, List.all_append, h, List.all_cons, hk, List.all_nil, Bool.and_true]
theorem all_take_end {α : Type} {l : List α} {f : α → Bool} {i : Nat} (h : (l.take i).all f = true) (hi : l.length ≤ i) : l.all f = true := by
  rwa [List.take_of_length_le hi] at h
theorem all_bad {α : Type} {l : List α} {f : α → Bool} {i : Nat} {x : α} (hx : l[i]? = some x) (hk : f x = false) : l.all f = false := by
  rw [List.all_eq_false]
  exact ⟨x, List.mem_of_getElem? hx, by simp [hk]⟩
theorem matE_size {a : Mat} (h : a.length < 1 ∨ 3 < a.length) : 1 = matE a := by unfold matE; rw [if_pos h]
theorem matE_row {a : Mat} (h : ¬(a.length < 1 ∨ 3 < a.length)) (h2 : a.all (fun r => r.length == a.length) = false) : 1 = matE a := by unfold matE; rw [if_neg h, if_neg (by rw [h2]; simp)]
theorem matE_num {a : Mat} (h : ¬(a.length < 1 ∨ 3 < a.length)) (h2 : a.all (fun r => r.length == a.length) = true) (h3 : a.all (fun r => r.all okE) = false) : 2 = matE a := by unfold matE; rw [if_neg h, if_pos h2, if_neg (by rw [h3]; simp)]
theorem matE_ok {a : Mat} (h : ¬(a.length < 1 ∨ 3 < a.length)) (h2 : a.all (fun r => r.length == a.length) = true) (h3 : a.all (fun r => r.all okE) = true) : 0 = matE a := by unfold matE; rw [if_neg h, if_pos h2, if_pos h3]

set_option maxHeartbeats 4000000 in
theorem matrix_any (v : Value) (a : Mat) (w : World) (h : MatV w v a) : Calls Try.prog 57 #[v] w fun e w' => e = .returned (.int .i64 (matE a)) ∧ Below w.heap.size w w' := by
  obtain ⟨pa, b, o, cap, rfl, h1, h2, h3, h4⟩ := h
  go_enter Try.func57, Try.ntmps57
  go_wp2_with fail
  · go_ret; exact ⟨ret_int (matE_size (by omega)), (by repeat (first | with_reducible exact Below.refl _ _ | with_reducible assumption | with_reducible refine Below.drew ?_ | with_reducible refine Below.setCell ?_ (by first | omega | (simp; omega) | simp) _ | with_reducible refine Below.alloc ?_ (by first | omega | (simp; omega) | simp) _ | with_reducible refine Below.trans ?_ (Below.mono (by with_reducible assumption) (by first | omega | (simp; omega) | simp))))⟩
  · have hz : ¬(a.length < 1 ∨ 3 < a.length) := by omega
    go_loopw [20] (fun x wr => ∃ i : Nat, i ≤ a.length ∧ x = .int .i64 i ∧ Below w.heap.size w wr ∧ (a.take i).all (fun r => r.length == a.length) = true) (fun x _ => a.length - (intOf x).toNat)
    case atStart => exact ⟨0, by omega, rfl, (by repeat (first | with_reducible exact Below.refl _ _ | with_reducible assumption | with_reducible refine Below.drew ?_ | with_reducible refine Below.setCell ?_ (by first | omega | (simp; omega) | simp) _ | with_reducible refine Below.alloc ?_ (by first | omega | (simp; omega) | simp) _ | with_reducible refine Below.trans ?_ (Below.mono (by with_reducible assumption) (by first | omega | (simp; omega) | simp)))), by simp⟩
    case round =>
      obtain ⟨i, hi, rfl, hb, hk⟩ := hrel
      rcases Nat.lt_or_ge i a.length with hlt | hge
      · obtain rfl := h1 (by omega)
        have hx := (after hb).1
        obtain ⟨r, hr⟩ : ∃ r, a[i]? = some r := ⟨_, List.getElem?_eq_getElem hlt⟩
        obtain ⟨u, c0, hu⟩ := h4 i r hr
        replace c0 := (hx _ _ (by simp [c0])).trans c0
        obtain ⟨qa, qb, qo, qc, rfl, q1, q2, q3, q4⟩ := hu
        have hR := Lib.hid hr
        have hn : a.length - (i + 1) < a.length - i := by omega
        clear hr hx
        go_wp2_with fail
        · go_ret; exact ⟨ret_int (matE_row hz (all_bad hR.out (by grind))), (by repeat (first | with_reducible exact Below.refl _ _ | with_reducible assumption | with_reducible refine Below.drew ?_ | with_reducible refine Below.setCell ?_ (by first | omega | (simp; omega) | simp) _ | with_reducible refine Below.alloc ?_ (by first | omega | (simp; omega) | simp) _ | with_reducible refine Below.trans ?_ (Below.mono (by with_reducible assumption) (by first | omega | (simp; omega) | simp))))⟩
        · exact ⟨⟨i + 1, hlt, by simp, hb, all_take_next hk hR.out (by grind)⟩, by simpa [intOf] using hn⟩
      · have hall := all_take_end hk hge
        have hA := Lib.hid hall
        have hd : ¬i < a.length := by omega
        clear hk hall
        go_wp2_with fail
        go_loopw [31] (fun x wr => ∃ i : Nat, i ≤ a.length ∧ x = .int .i64 i ∧ Below w.heap.size w wr ∧ (a.take i).all (fun r => r.all okE) = true) (fun x _ => a.length - (intOf x).toNat)
        case atStart => exact ⟨0, by omega, rfl, hb, by simp⟩
        case round =>
          obtain ⟨k, hk, rfl, hb2, hk2⟩ := hrel
          rcases Nat.lt_or_ge k a.length with hlt2 | hge2
          · obtain rfl := h1 (by omega)
            have hx := (after hb2).1
            obtain ⟨r, hr⟩ : ∃ r, a[k]? = some r := ⟨_, List.getElem?_eq_getElem hlt2⟩
            obtain ⟨u, c0, hu⟩ := h4 k r hr
            replace c0 := (hx _ _ (by simp [c0])).trans c0
            obtain ⟨qa, qb, qo, qc, rfl, q1, q2, q3, q4⟩ := hu
            have hR := Lib.hid hr
            have hn : a.length - (k + 1) < a.length - k := by omega
            have hq3 : qc ≤ 9223372036854775807 := by unfold maxLen at q3; omega
            clear hr hx
            go_wp2_with fail
            go_loopw [37] (fun x wr => ∃ j : Nat, j ≤ r.length ∧ x = .int .i64 j ∧ Below w.heap.size w wr ∧ (r.take j).all okE = true) (fun x _ => r.length - (intOf x).toNat)
            case atStart => exact ⟨0, by omega, rfl, hb2, by simp⟩
            case round =>
              obtain ⟨j, hj, rfl, hb3, hk3⟩ := hrel
              rcases Nat.lt_or_ge j r.length with hlt3 | hge3
              · obtain rfl := q1 (by omega)
                have hx := (after hb3).1
                obtain ⟨y, hy⟩ : ∃ y, r[j]? = some y := ⟨_, List.getElem?_eq_getElem hlt3⟩
                have d0 := q4 j y hy
                replace d0 := (hx _ _ (by simp [d0])).trans d0
                have hY := Lib.hid hy
                have hn3 : r.length - (j + 1) < r.length - j := by omega
                clear hy hx
                go_wp2_with (go_at_call 51; refine (within_any _ _ (by omega) (by omega) _).mono ?_; rintro e w' ⟨rfl, rfl⟩)
                · have hw : okE y = false := by simp only [okE]; simp only [inB] at *; grind
                  go_ret; exact ⟨ret_int (matE_num hz hA.out (all_bad hR.out (all_bad hY.out hw))), (by repeat (first | with_reducible exact Below.refl _ _ | with_reducible assumption | with_reducible refine Below.drew ?_ | with_reducible refine Below.setCell ?_ (by first | omega | (simp; omega) | simp) _ | with_reducible refine Below.alloc ?_ (by first | omega | (simp; omega) | simp) _ | with_reducible refine Below.trans ?_ (Below.mono (by with_reducible assumption) (by first | omega | (simp; omega) | simp))))⟩
                · have hw : okE y = true := by simp only [okE]; simp only [inB] at *; grind
                  exact ⟨⟨j + 1, hlt3, by simp, hb3, all_take_next hk3 hY.out hw⟩, by simpa [intOf] using hn3⟩
              · have hall3 := all_take_end hk3 hge3
                have hA3 := Lib.hid hall3
                clear hk3 hall3
                go_wp2_with fail
                exact ⟨⟨k + 1, hlt2, by simp, hb3, all_take_next hk2 hR.out hA3.out⟩, by simpa [intOf] using hn⟩
          · have hall2 := all_take_end hk2 hge2
            go_wp2_with fail
            go_ret
            exact ⟨ret_int (matE_ok hz hA.out hall2), (by repeat (first | with_reducible exact Below.refl _ _ | with_reducible assumption | with_reducible refine Below.drew ?_ | with_reducible refine Below.setCell ?_ (by first | omega | (simp; omega) | simp) _ | with_reducible refine Below.alloc ?_ (by first | omega | (simp; omega) | simp) _ | with_reducible refine Below.trans ?_ (Below.mono (by with_reducible assumption) (by first | omega | (simp; omega) | simp))))⟩
  · go_ret; exact ⟨ret_int (matE_size (by omega)), (by repeat (first | with_reducible exact Below.refl _ _ | with_reducible assumption | with_reducible refine Below.drew ?_ | with_reducible refine Below.setCell ?_ (by first | omega | (simp; omega) | simp) _ | with_reducible refine Below.alloc ?_ (by first | omega | (simp; omega) | simp) _ | with_reducible refine Below.trans ?_ (Below.mono (by with_reducible assumption) (by first | omega | (simp; omega) | simp))))⟩
end Go.Proofs.Ytcppgigndpepnaa
