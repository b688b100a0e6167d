/-
  A slice that holds points; contracts of points, ours and the reference's.
  Conditions: none.
-/
import Derived.Test.YtcppgigndpepnaaLsqPlain
import Derived.OwnWalk
import Derived.Lib.Hide
namespace Go.Proofs.Ytcppgigndpepnaa
open Go.RowKit

/-- The slice v holds the points ps. -/
def Pts (w : World) (v : Value) (ps : List PT) : Prop :=
  ∃ (pa : Option Addr) (b o cap : Nat), v = .slice pa ps.length cap ∧ (0 < ps.length → pa = some ⟨b, o, none⟩) ∧ ps.length ≤ cap ∧ cap ≤ maxLen ∧
    ∀ i p, ps[i]? = some p → w.cell? ⟨b, o + i * 2, none⟩ = some (.int .i64 p.1) ∧ w.cell? ⟨b, o + i * 2 + 1, none⟩ = some (.int .i64 p.2)
theorem Pts.below {w w' : World} {v : Value} {ps : List PT} (h : Pts w v ps) (hb : Below w.heap.size w w') : Pts w' v ps := by
  obtain ⟨pa, b, o, cap, rfl, h1, h2, h3, h4⟩ := h
  refine ⟨pa, b, o, cap, rfl, h1, h2, h3, fun i p hp => ?_⟩
  obtain ⟨c0, c1⟩ := h4 i p hp
  have hx := (after hb).1
  exact ⟨(hx _ _ (by simp [c0])).trans c0, (hx _ _ (by simp [c1])).trans c1⟩
def inB (n k : Int) : Bool := decide (-k ≤ n) && decide (n ≤ k)
theorem within_any (n k : Int) (h1 : 0 ≤ k) (h2 : k ≤ 9223372036854775807) (w : World) : Calls Try.prog 51 #[.int .i64 n, .int .i64 k] w fun e w' => e = .returned (.bool (inB n k)) ∧ w = w' := by
  go_enter Try.func51, Try.ntmps51
  go_wp2_with fail
  all_goals (go_ret; refine ⟨ret_bool ?_, rfl⟩; simp only [inB]; grind)
theorem all_next {ps : List PT} {i : Nat} {p : PT} (h : (ps.take i).all okP = true) (hp : ps[i]? = some p) (hk : okP p = true) : (ps.take (i + 1)).all okP = true := by
  rw [List.take_add_one, hp]; simp only [Option.toList_some, List.all_append, h, List.all_cons, hk, List.all_nil, Bool.and_true]
theorem pts_bad {ps : List PT} {i : Nat} {p : PT} (hp : ps[i]? = some p) (h1 : ¬ 64 < ps.length) (h2 : ¬ ps.length < 2) (hk : okP p = false) : 2 = ptsE ps := by
  unfold ptsE
  rw [if_neg h1, if_neg h2, if_neg]
  intro h
  have := List.all_eq_true.1 h p (List.mem_of_getElem? hp)
  rw [hk] at this
  exact Bool.noConfusion this
theorem pts_good {ps : List PT} {i : Nat} (h : (ps.take i).all okP = true) (hi : ps.length ≤ i) (h1 : ¬ 64 < ps.length) (h2 : ¬ ps.length < 2) : 0 = ptsE ps := by
  rw [List.take_of_length_le hi] at h
  unfold ptsE
  rw [if_neg h1, if_neg h2, if_pos h]
set_option maxHeartbeats 1000000 in
theorem points_any (v : Value) (ps : List PT) (w : World) (h : Pts w v ps) : Calls Try.prog 58 #[v] w fun e w' => e = .returned (.int .i64 (ptsE ps)) ∧ Below w.heap.size w w' := by
  have h0 := h
  obtain ⟨pa, b, o, cap, rfl, h1, h2, h3, h4⟩ := h
  go_enter Try.func58, Try.ntmps58
  go_wp2_with fail
  · go_ret; exact ⟨ret_int (by unfold ptsE; rw [if_pos (by omega)]), (by repeat (first | with_reducible exact Below.refl _ _ | with_reducible assumption | with_reducible refine Below.drew ?_ | with_reducible refine Below.setCell ?_ (by first | omega | (simp; omega) | simp) _ | with_reducible refine Below.alloc ?_ (by first | omega | (simp; omega) | simp) _ | with_reducible refine Below.trans ?_ (Below.mono (by with_reducible assumption) (by first | omega | (simp; omega) | simp))))⟩
  · go_ret; exact ⟨ret_int (by unfold ptsE; rw [if_neg (by omega), if_pos (by omega)]), (by repeat (first | with_reducible exact Below.refl _ _ | with_reducible assumption | with_reducible refine Below.drew ?_ | with_reducible refine Below.setCell ?_ (by first | omega | (simp; omega) | simp) _ | with_reducible refine Below.alloc ?_ (by first | omega | (simp; omega) | simp) _ | with_reducible refine Below.trans ?_ (Below.mono (by with_reducible assumption) (by first | omega | (simp; omega) | simp))))⟩
  · go_loopw [15] (fun x wr => ∃ i : Nat, i ≤ ps.length ∧ x = .int .i64 i ∧ Below w.heap.size w wr ∧ (ps.take i).all okP = true) (fun x _ => ps.length - (intOf x).toNat)
    case atStart => exact ⟨0, by omega, rfl, (by repeat (first | with_reducible exact Below.refl _ _ | with_reducible assumption | with_reducible refine Below.drew ?_ | with_reducible refine Below.setCell ?_ (by first | omega | (simp; omega) | simp) _ | with_reducible refine Below.alloc ?_ (by first | omega | (simp; omega) | simp) _ | with_reducible refine Below.trans ?_ (Below.mono (by with_reducible assumption) (by first | omega | (simp; omega) | simp)))), by simp⟩
    case round =>
      obtain ⟨i, hi, rfl, hb, hk⟩ := hrel
      rcases Nat.lt_or_ge i ps.length with hlt | hge
      · obtain rfl := h1 (by omega)
        have hx := (after hb).1
        obtain ⟨p, hp⟩ : ∃ p, ps[i]? = some p := ⟨_, List.getElem?_eq_getElem hlt⟩
        obtain ⟨c0, c1⟩ := h4 i p hp
        replace c0 := (hx _ _ (by simp [c0])).trans c0
        replace c1 := (hx _ _ (by simp [c1])).trans c1
        have hs := hb.size
        have hP := Lib.hid hp
        clear hp
        go_wp2_with (go_at_call 51; refine (within_any _ _ (by omega) (by omega) _).mono ?_; rintro e w' ⟨rfl, rfl⟩)
        · go_ret; exact ⟨ret_int (pts_bad hP.out (by omega) (by omega) (by simp only [okP, inB] at *; grind)), (by repeat (first | with_reducible exact Below.refl _ _ | with_reducible assumption | with_reducible refine Below.drew ?_ | with_reducible refine Below.setCell ?_ (by first | omega | (simp; omega) | simp) _ | with_reducible refine Below.alloc ?_ (by first | omega | (simp; omega) | simp) _ | with_reducible refine Below.trans ?_ (Below.mono (by with_reducible assumption) (by first | omega | (simp; omega) | simp))))⟩
        · exact ⟨⟨i + 1, by omega, by simp, (by repeat (first | with_reducible exact Below.refl _ _ | with_reducible assumption | with_reducible refine Below.drew ?_ | with_reducible refine Below.setCell ?_ (by first | omega | (simp; omega) | simp) _ | with_reducible refine Below.alloc ?_ (by first | omega | (simp; omega) | simp) _ | with_reducible refine Below.trans ?_ (Below.mono (by with_reducible assumption) (by first | omega | (simp; omega) | simp)))), all_next hk hP.out (by simp only [okP, inB] at *; grind)⟩, by simp [intOf]; omega⟩
        · go_ret; exact ⟨ret_int (pts_bad hP.out (by omega) (by omega) (by simp only [okP, inB] at *; grind)), (by repeat (first | with_reducible exact Below.refl _ _ | with_reducible assumption | with_reducible refine Below.drew ?_ | with_reducible refine Below.setCell ?_ (by first | omega | (simp; omega) | simp) _ | with_reducible refine Below.alloc ?_ (by first | omega | (simp; omega) | simp) _ | with_reducible refine Below.trans ?_ (Below.mono (by with_reducible assumption) (by first | omega | (simp; omega) | simp))))⟩
        · go_ret; exact ⟨ret_int (pts_bad hP.out (by omega) (by omega) (by simp only [okP, inB] at *; grind)), (by repeat (first | with_reducible exact Below.refl _ _ | with_reducible assumption | with_reducible refine Below.drew ?_ | with_reducible refine Below.setCell ?_ (by first | omega | (simp; omega) | simp) _ | with_reducible refine Below.alloc ?_ (by first | omega | (simp; omega) | simp) _ | with_reducible refine Below.trans ?_ (Below.mono (by with_reducible assumption) (by first | omega | (simp; omega) | simp))))⟩
      · go_wp2_with fail
        go_ret
        exact ⟨ret_int (pts_good hk hge (by omega) (by omega)), (by repeat (first | with_reducible exact Below.refl _ _ | with_reducible assumption | with_reducible refine Below.drew ?_ | with_reducible refine Below.setCell ?_ (by first | omega | (simp; omega) | simp) _ | with_reducible refine Below.alloc ?_ (by first | omega | (simp; omega) | simp) _ | with_reducible refine Below.trans ?_ (Below.mono (by with_reducible assumption) (by first | omega | (simp; omega) | simp))))⟩
theorem rout_any (n k : Int) (h1 : 0 ≤ k) (h2 : k ≤ 9223372036854775807) (w : World) : Calls Try.prog 54 #[.int .i64 n, .int .i64 k] w fun e w' => e = .returned (.bool (!inB n k)) ∧ w = w' := by
  go_enter Try.func54, Try.ntmps54
  go_wp2_with fail
  all_goals (go_ret; refine ⟨ret_bool ?_, rfl⟩; simp only [inB]; grind)
set_option maxHeartbeats 1000000 in
theorem rpoints_any (v : Value) (ps : List PT) (w : World) (h : Pts w v ps) : Calls Try.prog 59 #[v] w fun e w' => e = .returned (.int .i64 (ptsE ps)) ∧ Below w.heap.size w w' := by
  have h0 := h
  obtain ⟨pa, b, o, cap, rfl, h1, h2, h3, h4⟩ := h
  go_enter Try.func59, Try.ntmps59
  go_wp2_with fail
  · go_ret; exact ⟨ret_int (by unfold ptsE; rw [if_pos (by omega)]), (by repeat (first | with_reducible exact Below.refl _ _ | with_reducible assumption | with_reducible refine Below.drew ?_ | with_reducible refine Below.setCell ?_ (by first | omega | (simp; omega) | simp) _ | with_reducible refine Below.alloc ?_ (by first | omega | (simp; omega) | simp) _ | with_reducible refine Below.trans ?_ (Below.mono (by with_reducible assumption) (by first | omega | (simp; omega) | simp))))⟩
  · go_ret; exact ⟨ret_int (by unfold ptsE; rw [if_neg (by omega), if_pos (by omega)]), (by repeat (first | with_reducible exact Below.refl _ _ | with_reducible assumption | with_reducible refine Below.drew ?_ | with_reducible refine Below.setCell ?_ (by first | omega | (simp; omega) | simp) _ | with_reducible refine Below.alloc ?_ (by first | omega | (simp; omega) | simp) _ | with_reducible refine Below.trans ?_ (Below.mono (by with_reducible assumption) (by first | omega | (simp; omega) | simp))))⟩
  · go_loopw [13] (fun x wr => ∃ i : Nat, i ≤ ps.length ∧ x = .int .i64 i ∧ Below w.heap.size w wr ∧ (ps.take i).all okP = true) (fun x _ => ps.length - (intOf x).toNat)
    case atStart => exact ⟨0, by omega, rfl, (by repeat (first | with_reducible exact Below.refl _ _ | with_reducible assumption | with_reducible refine Below.drew ?_ | with_reducible refine Below.setCell ?_ (by first | omega | (simp; omega) | simp) _ | with_reducible refine Below.alloc ?_ (by first | omega | (simp; omega) | simp) _ | with_reducible refine Below.trans ?_ (Below.mono (by with_reducible assumption) (by first | omega | (simp; omega) | simp)))), by simp⟩
    case round =>
      obtain ⟨i, hi, rfl, hb, hk⟩ := hrel
      rcases Nat.lt_or_ge i ps.length with hlt | hge
      · obtain rfl := h1 (by omega)
        have hx := (after hb).1
        obtain ⟨p, hp⟩ : ∃ p, ps[i]? = some p := ⟨_, List.getElem?_eq_getElem hlt⟩
        obtain ⟨c0, c1⟩ := h4 i p hp
        replace c0 := (hx _ _ (by simp [c0])).trans c0
        replace c1 := (hx _ _ (by simp [c1])).trans c1
        have hs := hb.size
        have hP := Lib.hid hp
        clear hp
        go_wp2_with (go_at_call 54; refine (rout_any _ _ (by omega) (by omega) _).mono ?_; rintro e w' ⟨rfl, rfl⟩)
        · go_ret; exact ⟨ret_int (pts_bad hP.out (by omega) (by omega) (by simp only [okP, inB] at *; grind)), (by repeat (first | with_reducible exact Below.refl _ _ | with_reducible assumption | with_reducible refine Below.drew ?_ | with_reducible refine Below.setCell ?_ (by first | omega | (simp; omega) | simp) _ | with_reducible refine Below.alloc ?_ (by first | omega | (simp; omega) | simp) _ | with_reducible refine Below.trans ?_ (Below.mono (by with_reducible assumption) (by first | omega | (simp; omega) | simp))))⟩
        · exact ⟨⟨i + 1, by omega, by simp, (by repeat (first | with_reducible exact Below.refl _ _ | with_reducible assumption | with_reducible refine Below.drew ?_ | with_reducible refine Below.setCell ?_ (by first | omega | (simp; omega) | simp) _ | with_reducible refine Below.alloc ?_ (by first | omega | (simp; omega) | simp) _ | with_reducible refine Below.trans ?_ (Below.mono (by with_reducible assumption) (by first | omega | (simp; omega) | simp)))), all_next hk hP.out (by simp only [okP, inB] at *; grind)⟩, by simp [intOf]; omega⟩
        · go_ret; exact ⟨ret_int (pts_bad hP.out (by omega) (by omega) (by simp only [okP, inB] at *; grind)), (by repeat (first | with_reducible exact Below.refl _ _ | with_reducible assumption | with_reducible refine Below.drew ?_ | with_reducible refine Below.setCell ?_ (by first | omega | (simp; omega) | simp) _ | with_reducible refine Below.alloc ?_ (by first | omega | (simp; omega) | simp) _ | with_reducible refine Below.trans ?_ (Below.mono (by with_reducible assumption) (by first | omega | (simp; omega) | simp))))⟩
        · go_ret; exact ⟨ret_int (pts_bad hP.out (by omega) (by omega) (by simp only [okP, inB] at *; grind)), (by repeat (first | with_reducible exact Below.refl _ _ | with_reducible assumption | with_reducible refine Below.drew ?_ | with_reducible refine Below.setCell ?_ (by first | omega | (simp; omega) | simp) _ | with_reducible refine Below.alloc ?_ (by first | omega | (simp; omega) | simp) _ | with_reducible refine Below.trans ?_ (Below.mono (by with_reducible assumption) (by first | omega | (simp; omega) | simp))))⟩
      · go_wp2_with fail
        go_ret
        exact ⟨ret_int (pts_good hk hge (by omega) (by omega)), (by repeat (first | with_reducible exact Below.refl _ _ | with_reducible assumption | with_reducible refine Below.drew ?_ | with_reducible refine Below.setCell ?_ (by first | omega | (simp; omega) | simp) _ | with_reducible refine Below.alloc ?_ (by first | omega | (simp; omega) | simp) _ | with_reducible refine Below.trans ?_ (Below.mono (by with_reducible assumption) (by first | omega | (simp; omega) | simp))))⟩
end Go.Proofs.Ytcppgigndpepnaa
