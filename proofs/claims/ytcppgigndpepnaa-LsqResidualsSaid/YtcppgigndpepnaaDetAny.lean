/-
  Contracts of det and Det at every matrix, ours and the reference's; slices of one's own that hold numbers and rows.
  Conditions: none.
-/
import Derived.Test.YtcppgigndpepnaaRDet
import Derived.Test.YtcppgigndpepnaaOfPts
namespace Go.Proofs.Ytcppgigndpepnaa
open Go.RowKit
theorem det_any (v : Value) (a : Mat) (w : World) (h : MatV w v a) (he : matE a = 0) : Calls Try.prog 52 #[v] w fun e w' => e = .returned (.int .i64 (detL a)) ∧ Below w.heap.size w w' := by
  have hb := det_bd he
  have hw : wrap64 (detL a) = detL a := wrap_id (by omega) (by omega)
  rw [← hw]
  rcases mat_shape he with ⟨x, rfl, hx⟩ | ⟨x, y, z, u, rfl, h1, h2, h3, h4⟩ | ⟨x, y, z, u, t, s, p, q, r, rfl, h1, h2, h3, h4, h5, h6, h7, h8, h9⟩
  · have := okE_iff hx; exact det1_any v x (by omega) (by omega) w h
  · exact det2_any v x y z u w h
  · exact det3_any v x y z u t s p q r w h
theorem rdet_any (v : Value) (a : Mat) (w : World) (h : MatV w v a) (he : matE a = 0) : Calls Try.prog 55 #[v] w fun e w' => e = .returned (.int .i64 (detL a)) ∧ Below w.heap.size w w' := by
  have hb := det_bd he
  have hw : wrap64 (detL a) = detL a := wrap_id (by omega) (by omega)
  rw [← hw]
  rcases mat_shape he with ⟨x, rfl, hx⟩ | ⟨x, y, z, u, rfl, h1, h2, h3, h4⟩ | ⟨x, y, z, u, t, s, p, q, r, rfl, h1, h2, h3, h4, h5, h6, h7, h8, h9⟩
  · have := okE_iff hx; exact rdet1_any v x (by omega) (by omega) w h
  · exact rdet2_any v x y z u w h
  · exact rdet3_any v x y z u t s p q r w h
/-- What Det gives. -/
def detN (a : Mat) : Int := if matE a = 0 then detL a else 0
theorem detc_any (v : Value) (a : Mat) (w : World) (h : MatV w v a) : Calls Try.prog 21 #[v] w fun e w' => e = .returned (.tuple #[.int .i64 (detN a), .int .i64 (matE a)]) ∧ Below w.heap.size w w' := by
  by_cases he : matE a = 0
  · have e1 : detN a = detL a := by unfold detN; rw [if_pos he]
    have hE := Lib.hid e1
    clear e1
    go_enter Try.func21, Try.ntmps21
    go_wp2_with (first | (go_at_call 57; refine (matrix_any _ _ _ h).mono ?_; rintro e w' ⟨rfl, hb⟩; (try clear hc hf); (try clear hcM hfM); (try clear hcN hfN); (first | ((first | replace hB := Below.next hB (Nat.le_refl _) hb | replace hB := Below.next1 hB (Nat.le_refl _) hb | replace hB := Below.next2 hB (Nat.le_refl _) hb); (first | replace hM := Below.next hM (Nat.le_refl _) hb | replace hM := Below.next1 hM (Nat.le_refl _) hb | replace hM := Below.next2 hM (Nat.le_refl _) hb); (first | replace hN := Below.next hN (Nat.le_refl _) hb | replace hN := Below.next1 hN (Nat.le_refl _) hb | replace hN := Below.next2 hN (Nat.le_refl _) hb)) | ((first | replace hB := Below.next hB (Nat.le_refl _) hb | replace hB := Below.next1 hB (Nat.le_refl _) hb | replace hB := Below.next2 hB (Nat.le_refl _) hb); (first | replace hM := Below.next hM (Nat.le_refl _) hb | replace hM := Below.next1 hM (Nat.le_refl _) hb | replace hM := Below.next2 hM (Nat.le_refl _) hb); have hN := Below.mid hb) | ((first | replace hB := Below.next hB (Nat.le_refl _) hb | replace hB := Below.next1 hB (Nat.le_refl _) hb | replace hB := Below.next2 hB (Nat.le_refl _) hb); (first | replace hM := Below.next hM (Nat.le_refl _) hb | replace hM := Below.next1 hM (Nat.le_refl _) hb | replace hM := Below.next2 hM (Nat.le_refl _) hb)) | ((first | replace hB := Below.next hB (Nat.le_refl _) hb | replace hB := Below.next1 hB (Nat.le_refl _) hb | replace hB := Below.next2 hB (Nat.le_refl _) hb); have hM := Below.mid hb) | (first | replace hB := Below.next hB (Nat.le_refl _) hb | replace hB := Below.next1 hB (Nat.le_refl _) hb | replace hB := Below.next2 hB (Nat.le_refl _) hb) | have hB := hb); obtain ⟨hc, hf, hz⟩ := after hB; (try (have hq := after hM; obtain ⟨hcM, hfM, hzM⟩ := hq)); (try (have hq := after hN; obtain ⟨hcN, hfN, hzN⟩ := hq)); have hs := hb.size; (try simp at hz); (try simp at hs)) | (go_at_call 52; refine (det_any _ _ _ (h.below hB) he).mono ?_; rintro e w' ⟨rfl, hb⟩; (try clear hc hf); (try clear hcM hfM); (try clear hcN hfN); (first | ((first | replace hB := Below.next hB (Nat.le_refl _) hb | replace hB := Below.next1 hB (Nat.le_refl _) hb | replace hB := Below.next2 hB (Nat.le_refl _) hb); (first | replace hM := Below.next hM (Nat.le_refl _) hb | replace hM := Below.next1 hM (Nat.le_refl _) hb | replace hM := Below.next2 hM (Nat.le_refl _) hb); (first | replace hN := Below.next hN (Nat.le_refl _) hb | replace hN := Below.next1 hN (Nat.le_refl _) hb | replace hN := Below.next2 hN (Nat.le_refl _) hb)) | ((first | replace hB := Below.next hB (Nat.le_refl _) hb | replace hB := Below.next1 hB (Nat.le_refl _) hb | replace hB := Below.next2 hB (Nat.le_refl _) hb); (first | replace hM := Below.next hM (Nat.le_refl _) hb | replace hM := Below.next1 hM (Nat.le_refl _) hb | replace hM := Below.next2 hM (Nat.le_refl _) hb); have hN := Below.mid hb) | ((first | replace hB := Below.next hB (Nat.le_refl _) hb | replace hB := Below.next1 hB (Nat.le_refl _) hb | replace hB := Below.next2 hB (Nat.le_refl _) hb); (first | replace hM := Below.next hM (Nat.le_refl _) hb | replace hM := Below.next1 hM (Nat.le_refl _) hb | replace hM := Below.next2 hM (Nat.le_refl _) hb)) | ((first | replace hB := Below.next hB (Nat.le_refl _) hb | replace hB := Below.next1 hB (Nat.le_refl _) hb | replace hB := Below.next2 hB (Nat.le_refl _) hb); have hM := Below.mid hb) | (first | replace hB := Below.next hB (Nat.le_refl _) hb | replace hB := Below.next1 hB (Nat.le_refl _) hb | replace hB := Below.next2 hB (Nat.le_refl _) hb) | have hB := hb); obtain ⟨hc, hf, hz⟩ := after hB; (try (have hq := after hM; obtain ⟨hcM, hfM, hzM⟩ := hq)); (try (have hq := after hN; obtain ⟨hcN, hfN, hzN⟩ := hq)); have hs := hb.size; (try simp at hz); (try simp at hs)))
    go_ret2
    exact ⟨by rw [hE.out, he]; rfl, (by repeat (first | with_reducible exact Below.refl _ _ | with_reducible assumption | with_reducible refine Below.drew ?_ | with_reducible refine Below.setCell ?_ (by first | omega | (simp; omega) | simp) _ | with_reducible refine Below.alloc ?_ (by first | omega | (simp; omega) | simp) _ | with_reducible refine Below.trans ?_ (Below.mono (by with_reducible assumption) (by first | omega | (simp; omega) | simp))))⟩
  · have e1 : detN a = 0 := by unfold detN; rw [if_neg he]
    have hE := Lib.hid e1
    have he' : (matE a != 0) = true := by simpa using he
    clear e1 he
    go_enter Try.func21, Try.ntmps21
    go_wp2_with (go_at_call 57; refine (matrix_any _ _ _ h).mono ?_; rintro e w' ⟨rfl, hb⟩; (try clear hc hf); (try clear hcM hfM); (try clear hcN hfN); (first | ((first | replace hB := Below.next hB (Nat.le_refl _) hb | replace hB := Below.next1 hB (Nat.le_refl _) hb | replace hB := Below.next2 hB (Nat.le_refl _) hb); (first | replace hM := Below.next hM (Nat.le_refl _) hb | replace hM := Below.next1 hM (Nat.le_refl _) hb | replace hM := Below.next2 hM (Nat.le_refl _) hb); (first | replace hN := Below.next hN (Nat.le_refl _) hb | replace hN := Below.next1 hN (Nat.le_refl _) hb | replace hN := Below.next2 hN (Nat.le_refl _) hb)) | ((first | replace hB := Below.next hB (Nat.le_refl _) hb | replace hB := Below.next1 hB (Nat.le_refl _) hb | replace hB := Below.next2 hB (Nat.le_refl _) hb); (first | replace hM := Below.next hM (Nat.le_refl _) hb | replace hM := Below.next1 hM (Nat.le_refl _) hb | replace hM := Below.next2 hM (Nat.le_refl _) hb); have hN := Below.mid hb) | ((first | replace hB := Below.next hB (Nat.le_refl _) hb | replace hB := Below.next1 hB (Nat.le_refl _) hb | replace hB := Below.next2 hB (Nat.le_refl _) hb); (first | replace hM := Below.next hM (Nat.le_refl _) hb | replace hM := Below.next1 hM (Nat.le_refl _) hb | replace hM := Below.next2 hM (Nat.le_refl _) hb)) | ((first | replace hB := Below.next hB (Nat.le_refl _) hb | replace hB := Below.next1 hB (Nat.le_refl _) hb | replace hB := Below.next2 hB (Nat.le_refl _) hb); have hM := Below.mid hb) | (first | replace hB := Below.next hB (Nat.le_refl _) hb | replace hB := Below.next1 hB (Nat.le_refl _) hb | replace hB := Below.next2 hB (Nat.le_refl _) hb) | have hB := hb); obtain ⟨hc, hf, hz⟩ := after hB; (try (have hq := after hM; obtain ⟨hcM, hfM, hzM⟩ := hq)); (try (have hq := after hN; obtain ⟨hcN, hfN, hzN⟩ := hq)); have hs := hb.size; (try simp at hz); (try simp at hs))
    go_ret2
    exact ⟨by rw [hE.out]; rfl, (by repeat (first | with_reducible exact Below.refl _ _ | with_reducible assumption | with_reducible refine Below.drew ?_ | with_reducible refine Below.setCell ?_ (by first | omega | (simp; omega) | simp) _ | with_reducible refine Below.alloc ?_ (by first | omega | (simp; omega) | simp) _ | with_reducible refine Below.trans ?_ (Below.mono (by with_reducible assumption) (by first | omega | (simp; omega) | simp))))⟩
theorem rdetc_any (v : Value) (a : Mat) (w : World) (h : MatV w v a) : Calls Try.prog 22 #[v] w fun e w' => e = .returned (.tuple #[.int .i64 (detN a), .int .i64 (matE a)]) ∧ Below w.heap.size w w' := by
  by_cases he : matE a = 0
  · have e1 : detN a = detL a := by unfold detN; rw [if_pos he]
    have hE := Lib.hid e1
    clear e1
    go_enter Try.func22, Try.ntmps22
    go_wp2_with (first | (go_at_call 53; refine (rshape_any _ _ _ h).mono ?_; rintro e w' ⟨rfl, hb⟩; (try clear hc hf); (try clear hcM hfM); (try clear hcN hfN); (first | ((first | replace hB := Below.next hB (Nat.le_refl _) hb | replace hB := Below.next1 hB (Nat.le_refl _) hb | replace hB := Below.next2 hB (Nat.le_refl _) hb); (first | replace hM := Below.next hM (Nat.le_refl _) hb | replace hM := Below.next1 hM (Nat.le_refl _) hb | replace hM := Below.next2 hM (Nat.le_refl _) hb); (first | replace hN := Below.next hN (Nat.le_refl _) hb | replace hN := Below.next1 hN (Nat.le_refl _) hb | replace hN := Below.next2 hN (Nat.le_refl _) hb)) | ((first | replace hB := Below.next hB (Nat.le_refl _) hb | replace hB := Below.next1 hB (Nat.le_refl _) hb | replace hB := Below.next2 hB (Nat.le_refl _) hb); (first | replace hM := Below.next hM (Nat.le_refl _) hb | replace hM := Below.next1 hM (Nat.le_refl _) hb | replace hM := Below.next2 hM (Nat.le_refl _) hb); have hN := Below.mid hb) | ((first | replace hB := Below.next hB (Nat.le_refl _) hb | replace hB := Below.next1 hB (Nat.le_refl _) hb | replace hB := Below.next2 hB (Nat.le_refl _) hb); (first | replace hM := Below.next hM (Nat.le_refl _) hb | replace hM := Below.next1 hM (Nat.le_refl _) hb | replace hM := Below.next2 hM (Nat.le_refl _) hb)) | ((first | replace hB := Below.next hB (Nat.le_refl _) hb | replace hB := Below.next1 hB (Nat.le_refl _) hb | replace hB := Below.next2 hB (Nat.le_refl _) hb); have hM := Below.mid hb) | (first | replace hB := Below.next hB (Nat.le_refl _) hb | replace hB := Below.next1 hB (Nat.le_refl _) hb | replace hB := Below.next2 hB (Nat.le_refl _) hb) | have hB := hb); obtain ⟨hc, hf, hz⟩ := after hB; (try (have hq := after hM; obtain ⟨hcM, hfM, hzM⟩ := hq)); (try (have hq := after hN; obtain ⟨hcN, hfN, hzN⟩ := hq)); have hs := hb.size; (try simp at hz); (try simp at hs)) | (go_at_call 55; refine (rdet_any _ _ _ (h.below hB) he).mono ?_; rintro e w' ⟨rfl, hb⟩; (try clear hc hf); (try clear hcM hfM); (try clear hcN hfN); (first | ((first | replace hB := Below.next hB (Nat.le_refl _) hb | replace hB := Below.next1 hB (Nat.le_refl _) hb | replace hB := Below.next2 hB (Nat.le_refl _) hb); (first | replace hM := Below.next hM (Nat.le_refl _) hb | replace hM := Below.next1 hM (Nat.le_refl _) hb | replace hM := Below.next2 hM (Nat.le_refl _) hb); (first | replace hN := Below.next hN (Nat.le_refl _) hb | replace hN := Below.next1 hN (Nat.le_refl _) hb | replace hN := Below.next2 hN (Nat.le_refl _) hb)) | ((first | replace hB := Below.next hB (Nat.le_refl _) hb | replace hB := Below.next1 hB (Nat.le_refl _) hb | replace hB := Below.next2 hB (Nat.le_refl _) hb); (first | replace hM := Below.next hM (Nat.le_refl _) hb | replace hM := Below.next1 hM (Nat.le_refl _) hb | replace hM := Below.next2 hM (Nat.le_refl _) hb); have hN := Below.mid hb) | ((first | replace hB := Below.next hB (Nat.le_refl _) hb | replace hB := Below.next1 hB (Nat.le_refl _) hb | replace hB := Below.next2 hB (Nat.le_refl _) hb); (first | replace hM := Below.next hM (Nat.le_refl _) hb | replace hM := Below.next1 hM (Nat.le_refl _) hb | replace hM := Below.next2 hM (Nat.le_refl _) hb)) | ((first | replace hB := Below.next hB (Nat.le_refl _) hb | replace hB := Below.next1 hB (Nat.le_refl _) hb | replace hB := Below.next2 hB (Nat.le_refl _) hb); have hM := Below.mid hb) | (first | replace hB := Below.next hB (Nat.le_refl _) hb | replace hB := Below.next1 hB (Nat.le_refl _) hb | replace hB := Below.next2 hB (Nat.le_refl _) hb) | have hB := hb); obtain ⟨hc, hf, hz⟩ := after hB; (try (have hq := after hM; obtain ⟨hcM, hfM, hzM⟩ := hq)); (try (have hq := after hN; obtain ⟨hcN, hfN, hzN⟩ := hq)); have hs := hb.size; (try simp at hz); (try simp at hs)))
    go_ret2
    exact ⟨by rw [hE.out, he]; rfl, (by repeat (first | with_reducible exact Below.refl _ _ | with_reducible assumption | with_reducible refine Below.drew ?_ | with_reducible refine Below.setCell ?_ (by first | omega | (simp; omega) | simp) _ | with_reducible refine Below.alloc ?_ (by first | omega | (simp; omega) | simp) _ | with_reducible refine Below.trans ?_ (Below.mono (by with_reducible assumption) (by first | omega | (simp; omega) | simp))))⟩
  · have e1 : detN a = 0 := by unfold detN; rw [if_neg he]
    have hE := Lib.hid e1
    have he' : (matE a != 0) = true := by simpa using he
    clear e1 he
    go_enter Try.func22, Try.ntmps22
    go_wp2_with (go_at_call 53; refine (rshape_any _ _ _ h).mono ?_; rintro e w' ⟨rfl, hb⟩; (try clear hc hf); (try clear hcM hfM); (try clear hcN hfN); (first | ((first | replace hB := Below.next hB (Nat.le_refl _) hb | replace hB := Below.next1 hB (Nat.le_refl _) hb | replace hB := Below.next2 hB (Nat.le_refl _) hb); (first | replace hM := Below.next hM (Nat.le_refl _) hb | replace hM := Below.next1 hM (Nat.le_refl _) hb | replace hM := Below.next2 hM (Nat.le_refl _) hb); (first | replace hN := Below.next hN (Nat.le_refl _) hb | replace hN := Below.next1 hN (Nat.le_refl _) hb | replace hN := Below.next2 hN (Nat.le_refl _) hb)) | ((first | replace hB := Below.next hB (Nat.le_refl _) hb | replace hB := Below.next1 hB (Nat.le_refl _) hb | replace hB := Below.next2 hB (Nat.le_refl _) hb); (first | replace hM := Below.next hM (Nat.le_refl _) hb | replace hM := Below.next1 hM (Nat.le_refl _) hb | replace hM := Below.next2 hM (Nat.le_refl _) hb); have hN := Below.mid hb) | ((first | replace hB := Below.next hB (Nat.le_refl _) hb | replace hB := Below.next1 hB (Nat.le_refl _) hb | replace hB := Below.next2 hB (Nat.le_refl _) hb); (first | replace hM := Below.next hM (Nat.le_refl _) hb | replace hM := Below.next1 hM (Nat.le_refl _) hb | replace hM := Below.next2 hM (Nat.le_refl _) hb)) | ((first | replace hB := Below.next hB (Nat.le_refl _) hb | replace hB := Below.next1 hB (Nat.le_refl _) hb | replace hB := Below.next2 hB (Nat.le_refl _) hb); have hM := Below.mid hb) | (first | replace hB := Below.next hB (Nat.le_refl _) hb | replace hB := Below.next1 hB (Nat.le_refl _) hb | replace hB := Below.next2 hB (Nat.le_refl _) hb) | have hB := hb); obtain ⟨hc, hf, hz⟩ := after hB; (try (have hq := after hM; obtain ⟨hcM, hfM, hzM⟩ := hq)); (try (have hq := after hN; obtain ⟨hcN, hfN, hzN⟩ := hq)); have hs := hb.size; (try simp at hz); (try simp at hs))
    go_ret2
    exact ⟨by rw [hE.out]; rfl, (by repeat (first | with_reducible exact Below.refl _ _ | with_reducible assumption | with_reducible refine Below.drew ?_ | with_reducible refine Below.setCell ?_ (by first | omega | (simp; omega) | simp) _ | with_reducible refine Below.alloc ?_ (by first | omega | (simp; omega) | simp) _ | with_reducible refine Below.trans ?_ (Below.mono (by with_reducible assumption) (by first | omega | (simp; omega) | simp))))⟩

def ints (l : List Int) : List Value := l.map (Value.int .i64)
theorem ints_at {l : List Int} {i : Nat} {x : Int} (h : l[i]? = some x) : (ints l)[i]? = some (.int .i64 x) := by simp [ints, h]
theorem ints_one (l : List Int) : ∀ u ∈ ints l, u.oneCell' = true := by
  intro u hu
  simp only [ints, List.mem_map] at hu
  obtain ⟨x, _, rfl⟩ := hu
  rfl
theorem row_own {t : TypeId} {base : Nat} {w : World} {v : Value} {l : List Int} (h : w.ownsRow base t 1 v l.length (ints l)) : Row w v l := by
  rcases h.2 with ⟨rfl, h0⟩ | ⟨g, cap, cur, rfl, hg, hh, h1, h2, h3, h4⟩
  · refine ⟨none, 0, 0, 0, by rw [h0], fun hp => by omega, by omega, by omega, fun i x hx => ?_⟩
    have := (List.getElem?_eq_some_iff.1 hx).1
    omega
  · refine ⟨_, g, 0, cap, rfl, fun _ => rfl, h1, h2, fun i x hx => ?_⟩
    have hi := (List.getElem?_eq_some_iff.1 hx).1
    rw [Nat.zero_add, World.ownsRow.cellAt h i (by omega)]
    exact ints_at hx
/-- The slice m, made of one's own, holds the rows, each made of one's own. -/
def MatOwn (base : Nat) (w : World) (m : Value) (rows : Mat) : Prop :=
  ∃ us : List Value, w.ownsRow base 23 1 m rows.length us ∧ ∀ (j : Nat) (r : List Int), rows[j]? = some r → ∃ u, us[j]? = some u ∧ w.ownsRow base 2 1 u r.length (ints r)
theorem MatOwn.nil (base : Nat) (w : World) : MatOwn base w (.slice none 0 0) [] := ⟨[], World.ownsRow_nil _ _ _ _, fun j r h => by simp at h⟩
theorem MatOwn.mat {base : Nat} {w : World} {m : Value} {rows : Mat} (h : MatOwn base w m rows) : MatV w m rows := by
  obtain ⟨us, h1, h2⟩ := h
  rcases h1.2 with ⟨rfl, h0⟩ | ⟨g, cap, cur, rfl, hg, hh, k1, k2, k3, k4⟩
  · refine ⟨none, 0, 0, 0, by rw [h0], fun hp => by omega, by omega, by omega, fun i r hr => ?_⟩
    have := (List.getElem?_eq_some_iff.1 hr).1
    omega
  · refine ⟨_, g, 0, cap, rfl, fun _ => rfl, k1, k2, fun i r hr => ?_⟩
    have hi := (List.getElem?_eq_some_iff.1 hr).1
    obtain ⟨u, hu, ho⟩ := h2 i r hr
    refine ⟨u, ?_, row_own ho⟩
    rw [Nat.zero_add, World.ownsRow.cellAt h1 i (by omega)]
    exact hu
/-- Blocks of one's own of unlike types are not the same. -/
theorem own_apart {w : World} {b1 b2 s1 s2 n1 n2 : Nat} {e1 e2 : TypeId} {v1 v2 : Value} {x1 x2 : List Value} (h1 : w.ownsRow b1 e1 s1 v1 n1 x1) (h2 : w.ownsRow b2 e2 s2 v2 n2 x2) (hne : e1 ≠ e2) : v1.ownBlock = none ∨ v1.ownBlock ≠ v2.ownBlock := by
  rcases h1.2 with ⟨rfl, _⟩ | ⟨g, cap, cur, rfl, _, hg, _⟩
  · exact .inl rfl
  · right
    rcases h2.2 with ⟨rfl, _⟩ | ⟨g2, cap2, cur2, rfl, _, hg2, _⟩
    · simp [Value.ownBlock]
    · intro he
      simp only [Value.ownBlock, Option.some.injEq] at he
      subst he
      rw [hg] at hg2
      simp only [Option.some.injEq, Obj.cells.injEq] at hg2
      exact hne hg2.2.1
theorem MatOwn.alloc {base : Nat} {w : World} {m : Value} {rows : Mat} (h : MatOwn base w m rows) (o : Obj) : MatOwn base (w.alloc o) m rows := by
  obtain ⟨us, h1, h2⟩ := h
  exact ⟨us, h1.alloc o, fun j r hr => let ⟨u, a, b⟩ := h2 j r hr; ⟨u, a, b.alloc o⟩⟩
theorem MatOwn.below {base : Nat} {w w' : World} {m : Value} {rows : Mat} (h : MatOwn base w m rows) (hb : Below w.heap.size w w') : MatOwn base w' m rows := by
  obtain ⟨us, h1, h2⟩ := h
  exact ⟨us, own_below h1 hb, fun j r hj => let ⟨u, a, b⟩ := h2 j r hj; ⟨u, a, own_below b hb⟩⟩
theorem MatOwn.push {base : Nat} {w w' : World} {m m' c : Value} {rows : Mat} {r : List Int} {us : List Value} (h1 : w.ownsRow base 23 1 m rows.length us)
    (h2 : ∀ (j : Nat) (r : List Int), rows[j]? = some r → ∃ u, us[j]? = some u ∧ w.ownsRow base 2 1 u r.length (ints r))
    (hc : w.ownsRow base 2 1 c r.length (ints r)) (hn : w'.ownsRow base 23 1 m' (rows.length + 1) (us ++ [c])) (hg : w.grownBy w' m.ownBlock) : MatOwn base w' m' (rows ++ [r]) := by
  have hl : us.length = rows.length := by simpa using h1.1
  refine ⟨us ++ [c], by simpa using hn, fun j q hq => ?_⟩
  rcases Nat.lt_or_ge j rows.length with hj | hj
  · rw [List.getElem?_append_left hj] at hq
    obtain ⟨u, a, b⟩ := h2 j q hq
    exact ⟨u, by rw [List.getElem?_append_left (by omega)]; exact a, b.kept hg (own_apart b h1 (by decide))⟩
  · rw [List.getElem?_append_right hj] at hq
    have hj0 : j - rows.length = 0 := by
      have := (List.getElem?_eq_some_iff.1 hq).1
      simp at this; omega
    rw [hj0] at hq
    obtain rfl : r = q := by simpa using hq
    refine ⟨c, ?_, hc.kept hg (own_apart hc h1 (by decide))⟩
    rw [List.getElem?_append_right (by omega), show j - us.length = 0 by omega]
    rfl
end Go.Proofs.Ytcppgigndpepnaa
