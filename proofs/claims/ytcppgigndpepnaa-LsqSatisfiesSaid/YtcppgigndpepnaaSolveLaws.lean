/-
  The walk of the statement on Det and Solve.
  Conditions: none.
-/
import Derived.Test.YtcppgigndpepnaaRSolve
import Derived.Test.YtcppgigndpepnaaLsqLaws
import Derived.Deep.Matrix
namespace Go.Proofs.Ytcppgigndpepnaa
open Go.RowKit
def okR (r : List Int) : Bool := decide (r.length ≤ 8)
def smallB (a : Mat) : Bool := decide (a.length ≤ 8) && a.all okR
theorem okR_next {a : Mat} {i : Nat} {r : List Int} (h : (a.take i).all okR = true) (hp : a[i]? = some r) (hk : okR r = true) : (a.take (i + 1)).all okR = true := by
  rw [List.take_add_one, hp]; simp only [Option.toList_some, List.all_append, h, List.all_cons, hk, List.all_nil, Bool.and_true]
theorem small_f1 {a : Mat} (h : ¬ a.length ≤ 8) : false = smallB a := by unfold smallB; simp [h]
theorem small_f2 {a : Mat} {i : Nat} {r : List Int} (hp : a[i]? = some r) (h : okR r = false) : false = smallB a := by
  unfold smallB
  have : a.all okR = false := by
    rw [List.all_eq_false]; exact ⟨r, List.mem_of_getElem? hp, by simp [h]⟩
  rw [this, Bool.and_false]
theorem small_t {a : Mat} {i : Nat} (h : (a.take i).all okR = true) (hi : a.length ≤ i) (hl : a.length ≤ 8) : true = smallB a := by
  rw [List.take_of_length_le hi] at h
  unfold smallB; simp [h, hl]
set_option maxHeartbeats 1000000 in
theorem small_any (v : Value) (a : Mat) (w : World) (h : MatV w v a) : Calls Try.prog 18 #[v] w fun e w' => e = .returned (.bool (smallB a)) ∧ Below w.heap.size w w' := by
  obtain ⟨pa, b, o, cap, rfl, h1, h2, h3, h4⟩ := h
  have hcap : cap ≤ 9223372036854775807 := by unfold maxLen at h3; omega
  rcases Nat.lt_or_ge 8 a.length with hbig | hsm
  · go_enter Try.func18, Try.ntmps18
    go_wp2_with fail
    go_ret
    exact ⟨ret_bool (small_f1 (by omega)), (by repeat (first | with_reducible exact Below.refl _ _ | with_reducible assumption | with_reducible refine Below.drew ?_ | with_reducible refine Below.setCell ?_ (by first | omega | (simp; omega) | simp) _ | with_reducible refine Below.alloc ?_ (by first | omega | (simp; omega) | simp) _ | with_reducible refine Below.trans ?_ (Below.mono (by with_reducible assumption) (by first | omega | (simp; omega) | simp))))⟩
  · go_enter Try.func18, Try.ntmps18
    go_wp2_with fail
    go_loopw [10] (fun x wr => ∃ i : Nat, i ≤ a.length ∧ x = .int .i64 i ∧ Below w.heap.size w wr ∧ (a.take i).all okR = true) (fun x _ => a.length - (intOf x).toNat)
    case atStart => exact ⟨0, by omega, rfl, (by repeat (first | with_reducible exact Below.refl _ _ | with_reducible assumption | with_reducible refine Below.drew ?_ | with_reducible refine Below.setCell ?_ (by first | omega | (simp; omega) | simp) _ | with_reducible refine Below.alloc ?_ (by first | omega | (simp; omega) | simp) _ | with_reducible refine Below.trans ?_ (Below.mono (by with_reducible assumption) (by first | omega | (simp; omega) | simp)))), by simp⟩
    case round =>
      obtain ⟨i, hi, rfl, hb, hk⟩ := hrel
      rcases Nat.lt_or_ge i a.length with hlt | hge
      · obtain rfl := h1 (by omega)
        have hx := (after hb).1
        obtain ⟨r, hr⟩ : ∃ r, a[i]? = some r := ⟨_, List.getElem?_eq_getElem hlt⟩
        obtain ⟨u, c0, hu⟩ := h4 i r hr
        replace c0 := (hx _ _ (by simp [c0])).trans c0
        obtain ⟨qa, qb, qo, qc, rfl, q1, q2, q3, q4⟩ := hu
        have hR := Lib.hid hr
        have hn : a.length - (i + 1) < a.length - i := by omega
        clear hr hx q4
        go_wp2_with fail
        · have hq : okR r = false := by unfold okR; simp; omega
          go_ret; exact ⟨ret_bool (small_f2 hR.out hq), (by repeat (first | with_reducible exact Below.refl _ _ | with_reducible assumption | with_reducible refine Below.drew ?_ | with_reducible refine Below.setCell ?_ (by first | omega | (simp; omega) | simp) _ | with_reducible refine Below.alloc ?_ (by first | omega | (simp; omega) | simp) _ | with_reducible refine Below.trans ?_ (Below.mono (by with_reducible assumption) (by first | omega | (simp; omega) | simp))))⟩
        · have hq : okR r = true := by unfold okR; simp; omega
          exact ⟨⟨i + 1, hlt, by simp, hb, okR_next hk hR.out hq⟩, by simpa [intOf] using hn⟩
      · have hdi : ¬i < a.length := by omega
        go_wp2_with fail
        go_ret
        exact ⟨ret_bool (small_t hk hge hsm), (by repeat (first | with_reducible exact Below.refl _ _ | with_reducible assumption | with_reducible refine Below.drew ?_ | with_reducible refine Below.setCell ?_ (by first | omega | (simp; omega) | simp) _ | with_reducible refine Below.alloc ?_ (by first | omega | (simp; omega) | simp) _ | with_reducible refine Below.trans ?_ (Below.mono (by with_reducible assumption) (by first | omega | (simp; omega) | simp))))⟩
set_option maxRecDepth 100000 in
set_option maxHeartbeats 1000000 in
theorem numbers_any (v u : Value) (l : List Int) (w : World) (h : Row w v l) (h' : Row w u l) : Calls Try.prog 23 #[v, u] w fun e w' => e = .returned (.bool true) ∧ Below w.heap.size w w' := by
  obtain ⟨pa, b, o, cap, rfl, h1, h2, h3, h4⟩ := h
  obtain ⟨pb, bb, bo, bc, rfl, g1, g2, g3, g4⟩ := h'
  have hcap : cap ≤ 9223372036854775807 := by unfold maxLen at h3; omega
  go_enter Try.func23, Try.ntmps23
  go_wp2_with fail
  go_loopw [13] (fun x wr => ∃ i : Nat, i ≤ l.length ∧ x = .int .i64 i ∧ Below w.heap.size w wr) (fun x _ => l.length - (intOf x).toNat)
  case atStart => exact ⟨0, by omega, rfl, (by repeat (first | with_reducible exact Below.refl _ _ | with_reducible assumption | with_reducible refine Below.drew ?_ | with_reducible refine Below.setCell ?_ (by first | omega | (simp; omega) | simp) _ | with_reducible refine Below.alloc ?_ (by first | omega | (simp; omega) | simp) _ | with_reducible refine Below.trans ?_ (Below.mono (by with_reducible assumption) (by first | omega | (simp; omega) | simp))))⟩
  case round =>
    obtain ⟨i, hi, rfl, hb⟩ := hrel
    rcases Nat.lt_or_ge i l.length with hlt | hge
    · obtain rfl := h1 (by omega)
      obtain rfl := g1 (by omega)
      have hx := (after hb).1
      obtain ⟨r, hr⟩ : ∃ r, l[i]? = some r := ⟨_, List.getElem?_eq_getElem hlt⟩
      have c0 := h4 i r hr
      have c1 := g4 i r hr
      replace c0 := (hx _ _ (by simp [c0])).trans c0
      replace c1 := (hx _ _ (by simp [c1])).trans c1
      have hR := Lib.hid hr
      have hn : l.length - (i + 1) < l.length - i := by omega
      clear hr hx
      go_wp2_with fail
      refine region_still (by kernel_rfl) (by kernel_rfl) ?_; intro W' hW hC; have z0 := (hC ⟨b, o + i, none⟩).trans (c0); have z1 := (hC ⟨bb, bo + i, none⟩).trans (c1); replace hW := Lib.hid hW; clear hC; (repeat still_step); refine wpStill_nil ?_; obtain rfl := hW.out; clear hW
      go_wp2_with fail
      exact ⟨⟨i + 1, hlt, by simp, (by repeat (first | with_reducible exact Below.refl _ _ | with_reducible assumption | with_reducible refine Below.drew ?_ | with_reducible refine Below.setCell ?_ (by first | omega | (simp; omega) | simp) _ | with_reducible refine Below.alloc ?_ (by first | omega | (simp; omega) | simp) _ | with_reducible refine Below.trans ?_ (Below.mono (by with_reducible assumption) (by first | omega | (simp; omega) | simp))))⟩, by simpa [intOf] using hn⟩
    · have hdi : ¬i < l.length := by omega
      go_wp2_with fail
      go_ret
      exact ⟨rfl, (by repeat (first | with_reducible exact Below.refl _ _ | with_reducible assumption | with_reducible refine Below.drew ?_ | with_reducible refine Below.setCell ?_ (by first | omega | (simp; omega) | simp) _ | with_reducible refine Below.alloc ?_ (by first | omega | (simp; omega) | simp) _ | with_reducible refine Below.trans ?_ (Below.mono (by with_reducible assumption) (by first | omega | (simp; omega) | simp))))⟩
set_option maxHeartbeats 4000000 in
theorem lsqSolves_walk (v vb : Value) (a : Mat) (bs : List Int) (w : World) (h : MatV w v a) (hv : Row w vb bs) : Calls Try.prog 3 #[v, vb] w fun e w' => e = .returned (.bool true) ∧ Below w.heap.size w w' := by
  have h0 := h
  have hv0 := hv
  obtain ⟨pa, b, o, cap, rfl, h1, h2, h3, h4⟩ := h
  obtain ⟨pb, bb, bo, bc, rfl, g1, g2, g3, g4⟩ := hv
  clear h1 h2 h3 h4 g1
  have hbc : bc ≤ 9223372036854775807 := by unfold maxLen at g3; omega
  generalize hS : smallB a = sb
  have hS' := Lib.hid hS
  clear hS g4
  cases sb with
  | false =>
    go_enter Try.func3, Try.ntmps3
    go_wp2_with (first | (go_at_call 17; refine (awake30_any _).mono ?_; rintro e w' ⟨rfl, hb⟩; (try clear hc hf); (try clear hcM hfM); (try clear hcN hfN); (first | ((first | replace hB := Below.next hB (Nat.le_refl _) hb | replace hB := Below.next1 hB (Nat.le_refl _) hb | replace hB := Below.next2 hB (Nat.le_refl _) hb); (first | replace hM := Below.next hM (Nat.le_refl _) hb | replace hM := Below.next1 hM (Nat.le_refl _) hb | replace hM := Below.next2 hM (Nat.le_refl _) hb); (first | replace hN := Below.next hN (Nat.le_refl _) hb | replace hN := Below.next1 hN (Nat.le_refl _) hb | replace hN := Below.next2 hN (Nat.le_refl _) hb)) | ((first | replace hB := Below.next hB (Nat.le_refl _) hb | replace hB := Below.next1 hB (Nat.le_refl _) hb | replace hB := Below.next2 hB (Nat.le_refl _) hb); (first | replace hM := Below.next hM (Nat.le_refl _) hb | replace hM := Below.next1 hM (Nat.le_refl _) hb | replace hM := Below.next2 hM (Nat.le_refl _) hb); have hN := Below.mid hb) | ((first | replace hB := Below.next hB (Nat.le_refl _) hb | replace hB := Below.next1 hB (Nat.le_refl _) hb | replace hB := Below.next2 hB (Nat.le_refl _) hb); (first | replace hM := Below.next hM (Nat.le_refl _) hb | replace hM := Below.next1 hM (Nat.le_refl _) hb | replace hM := Below.next2 hM (Nat.le_refl _) hb)) | ((first | replace hB := Below.next hB (Nat.le_refl _) hb | replace hB := Below.next1 hB (Nat.le_refl _) hb | replace hB := Below.next2 hB (Nat.le_refl _) hb); have hM := Below.mid hb) | (first | replace hB := Below.next hB (Nat.le_refl _) hb | replace hB := Below.next1 hB (Nat.le_refl _) hb | replace hB := Below.next2 hB (Nat.le_refl _) hb) | have hB := hb); obtain ⟨hc, hf, hz⟩ := after hB; (try (have hq := after hM; obtain ⟨hcM, hfM, hzM⟩ := hq)); (try (have hq := after hN; obtain ⟨hcN, hfN, hzN⟩ := hq)); have hs := hb.size; (try simp at hz); (try simp at hs)) | (go_at_call 18; refine (small_any _ a _ (h0.below hB)).mono ?_; rw [hS'.out]; rintro e w' ⟨rfl, hb⟩; (try clear hc hf); (try clear hcM hfM); (try clear hcN hfN); (first | ((first | replace hB := Below.next hB (Nat.le_refl _) hb | replace hB := Below.next1 hB (Nat.le_refl _) hb | replace hB := Below.next2 hB (Nat.le_refl _) hb); (first | replace hM := Below.next hM (Nat.le_refl _) hb | replace hM := Below.next1 hM (Nat.le_refl _) hb | replace hM := Below.next2 hM (Nat.le_refl _) hb); (first | replace hN := Below.next hN (Nat.le_refl _) hb | replace hN := Below.next1 hN (Nat.le_refl _) hb | replace hN := Below.next2 hN (Nat.le_refl _) hb)) | ((first | replace hB := Below.next hB (Nat.le_refl _) hb | replace hB := Below.next1 hB (Nat.le_refl _) hb | replace hB := Below.next2 hB (Nat.le_refl _) hb); (first | replace hM := Below.next hM (Nat.le_refl _) hb | replace hM := Below.next1 hM (Nat.le_refl _) hb | replace hM := Below.next2 hM (Nat.le_refl _) hb); have hN := Below.mid hb) | ((first | replace hB := Below.next hB (Nat.le_refl _) hb | replace hB := Below.next1 hB (Nat.le_refl _) hb | replace hB := Below.next2 hB (Nat.le_refl _) hb); (first | replace hM := Below.next hM (Nat.le_refl _) hb | replace hM := Below.next1 hM (Nat.le_refl _) hb | replace hM := Below.next2 hM (Nat.le_refl _) hb)) | ((first | replace hB := Below.next hB (Nat.le_refl _) hb | replace hB := Below.next1 hB (Nat.le_refl _) hb | replace hB := Below.next2 hB (Nat.le_refl _) hb); have hM := Below.mid hb) | (first | replace hB := Below.next hB (Nat.le_refl _) hb | replace hB := Below.next1 hB (Nat.le_refl _) hb | replace hB := Below.next2 hB (Nat.le_refl _) hb) | have hB := hb); obtain ⟨hc, hf, hz⟩ := after hB; (try (have hq := after hM; obtain ⟨hcM, hfM, hzM⟩ := hq)); (try (have hq := after hN; obtain ⟨hcN, hfN, hzN⟩ := hq)); have hs := hb.size; (try simp at hz); (try simp at hs)))
    go_ret
    exact ⟨rfl, (by repeat (first | with_reducible exact Below.refl _ _ | with_reducible assumption | with_reducible refine Below.drew ?_ | with_reducible refine Below.setCell ?_ (by first | omega | (simp; omega) | simp) _ | with_reducible refine Below.alloc ?_ (by first | omega | (simp; omega) | simp) _ | with_reducible refine Below.trans ?_ (Below.mono (by with_reducible assumption) (by first | omega | (simp; omega) | simp))))⟩
  | true =>
    rcases Nat.lt_or_ge 8 bs.length with hlt | hge
    · go_enter Try.func3, Try.ntmps3
      go_wp2_with (first | (go_at_call 17; refine (awake30_any _).mono ?_; rintro e w' ⟨rfl, hb⟩; (try clear hc hf); (try clear hcM hfM); (try clear hcN hfN); (first | ((first | replace hB := Below.next hB (Nat.le_refl _) hb | replace hB := Below.next1 hB (Nat.le_refl _) hb | replace hB := Below.next2 hB (Nat.le_refl _) hb); (first | replace hM := Below.next hM (Nat.le_refl _) hb | replace hM := Below.next1 hM (Nat.le_refl _) hb | replace hM := Below.next2 hM (Nat.le_refl _) hb); (first | replace hN := Below.next hN (Nat.le_refl _) hb | replace hN := Below.next1 hN (Nat.le_refl _) hb | replace hN := Below.next2 hN (Nat.le_refl _) hb)) | ((first | replace hB := Below.next hB (Nat.le_refl _) hb | replace hB := Below.next1 hB (Nat.le_refl _) hb | replace hB := Below.next2 hB (Nat.le_refl _) hb); (first | replace hM := Below.next hM (Nat.le_refl _) hb | replace hM := Below.next1 hM (Nat.le_refl _) hb | replace hM := Below.next2 hM (Nat.le_refl _) hb); have hN := Below.mid hb) | ((first | replace hB := Below.next hB (Nat.le_refl _) hb | replace hB := Below.next1 hB (Nat.le_refl _) hb | replace hB := Below.next2 hB (Nat.le_refl _) hb); (first | replace hM := Below.next hM (Nat.le_refl _) hb | replace hM := Below.next1 hM (Nat.le_refl _) hb | replace hM := Below.next2 hM (Nat.le_refl _) hb)) | ((first | replace hB := Below.next hB (Nat.le_refl _) hb | replace hB := Below.next1 hB (Nat.le_refl _) hb | replace hB := Below.next2 hB (Nat.le_refl _) hb); have hM := Below.mid hb) | (first | replace hB := Below.next hB (Nat.le_refl _) hb | replace hB := Below.next1 hB (Nat.le_refl _) hb | replace hB := Below.next2 hB (Nat.le_refl _) hb) | have hB := hb); obtain ⟨hc, hf, hz⟩ := after hB; (try (have hq := after hM; obtain ⟨hcM, hfM, hzM⟩ := hq)); (try (have hq := after hN; obtain ⟨hcN, hfN, hzN⟩ := hq)); have hs := hb.size; (try simp at hz); (try simp at hs)) | (go_at_call 18; refine (small_any _ a _ (h0.below hB)).mono ?_; rw [hS'.out]; rintro e w' ⟨rfl, hb⟩; (try clear hc hf); (try clear hcM hfM); (try clear hcN hfN); (first | ((first | replace hB := Below.next hB (Nat.le_refl _) hb | replace hB := Below.next1 hB (Nat.le_refl _) hb | replace hB := Below.next2 hB (Nat.le_refl _) hb); (first | replace hM := Below.next hM (Nat.le_refl _) hb | replace hM := Below.next1 hM (Nat.le_refl _) hb | replace hM := Below.next2 hM (Nat.le_refl _) hb); (first | replace hN := Below.next hN (Nat.le_refl _) hb | replace hN := Below.next1 hN (Nat.le_refl _) hb | replace hN := Below.next2 hN (Nat.le_refl _) hb)) | ((first | replace hB := Below.next hB (Nat.le_refl _) hb | replace hB := Below.next1 hB (Nat.le_refl _) hb | replace hB := Below.next2 hB (Nat.le_refl _) hb); (first | replace hM := Below.next hM (Nat.le_refl _) hb | replace hM := Below.next1 hM (Nat.le_refl _) hb | replace hM := Below.next2 hM (Nat.le_refl _) hb); have hN := Below.mid hb) | ((first | replace hB := Below.next hB (Nat.le_refl _) hb | replace hB := Below.next1 hB (Nat.le_refl _) hb | replace hB := Below.next2 hB (Nat.le_refl _) hb); (first | replace hM := Below.next hM (Nat.le_refl _) hb | replace hM := Below.next1 hM (Nat.le_refl _) hb | replace hM := Below.next2 hM (Nat.le_refl _) hb)) | ((first | replace hB := Below.next hB (Nat.le_refl _) hb | replace hB := Below.next1 hB (Nat.le_refl _) hb | replace hB := Below.next2 hB (Nat.le_refl _) hb); have hM := Below.mid hb) | (first | replace hB := Below.next hB (Nat.le_refl _) hb | replace hB := Below.next1 hB (Nat.le_refl _) hb | replace hB := Below.next2 hB (Nat.le_refl _) hb) | have hB := hb); obtain ⟨hc, hf, hz⟩ := after hB; (try (have hq := after hM; obtain ⟨hcM, hfM, hzM⟩ := hq)); (try (have hq := after hN; obtain ⟨hcN, hfN, hzN⟩ := hq)); have hs := hb.size; (try simp at hz); (try simp at hs)))
      go_ret
      exact ⟨rfl, (by repeat (first | with_reducible exact Below.refl _ _ | with_reducible assumption | with_reducible refine Below.drew ?_ | with_reducible refine Below.setCell ?_ (by first | omega | (simp; omega) | simp) _ | with_reducible refine Below.alloc ?_ (by first | omega | (simp; omega) | simp) _ | with_reducible refine Below.trans ?_ (Below.mono (by with_reducible assumption) (by first | omega | (simp; omega) | simp))))⟩
    · generalize hX : solvX a bs = X
      generalize hD : solvD a bs = D
      generalize hE : solvE a bs = E
      generalize hN : detN a = N
      generalize hM : matE a = M
      have s1 : ∀ w, MatV w (.slice pa a.length cap) a → Row w (.slice pb bs.length bc) bs → Calls Try.prog 19 #[.slice pa a.length cap, .slice pb bs.length bc] w fun e w' => ∃ u, e = .returned (.tuple #[u, .int .i64 D, .int .i64 E]) ∧ Row w' u X ∧ Below w.heap.size w w' := by
        intro w k1 k2; have := solve_any _ _ a bs w k1 k2; rwa [hX, hD, hE] at this
      have s2 : ∀ w, MatV w (.slice pa a.length cap) a → Row w (.slice pb bs.length bc) bs → Calls Try.prog 20 #[.slice pa a.length cap, .slice pb bs.length bc] w fun e w' => ∃ u, e = .returned (.tuple #[u, .int .i64 D, .int .i64 E]) ∧ Row w' u X ∧ Below w.heap.size w w' := by
        intro w k1 k2; have := rsolve_any _ _ a bs w k1 k2; rwa [hX, hD, hE] at this
      have s3 : ∀ w, MatV w (.slice pa a.length cap) a → Calls Try.prog 21 #[.slice pa a.length cap] w fun e w' => e = .returned (.tuple #[.int .i64 N, .int .i64 M]) ∧ Below w.heap.size w w' := by
        intro w k1; have := detc_any _ a w k1; rwa [hN, hM] at this
      have s4 : ∀ w, MatV w (.slice pa a.length cap) a → Calls Try.prog 22 #[.slice pa a.length cap] w fun e w' => e = .returned (.tuple #[.int .i64 N, .int .i64 M]) ∧ Below w.heap.size w w' := by
        intro w k1; have := rdetc_any _ a w k1; rwa [hN, hM] at this
      have t1 := Lib.hid s1
      have t2 := Lib.hid s2
      have t3 := Lib.hid s3
      have t4 := Lib.hid s4
      clear s1 s2 s3 s4 hX hD hE hN hM
      go_enter Try.func3, Try.ntmps3
      go_wp2_with (first
        | (go_at_call 17; refine (awake30_any _).mono ?_; rintro e w' ⟨rfl, hb⟩; (try clear hc hf); (try clear hcM hfM); (try clear hcN hfN); (first | ((first | replace hB := Below.next hB (Nat.le_refl _) hb | replace hB := Below.next1 hB (Nat.le_refl _) hb | replace hB := Below.next2 hB (Nat.le_refl _) hb); (first | replace hM := Below.next hM (Nat.le_refl _) hb | replace hM := Below.next1 hM (Nat.le_refl _) hb | replace hM := Below.next2 hM (Nat.le_refl _) hb); (first | replace hN := Below.next hN (Nat.le_refl _) hb | replace hN := Below.next1 hN (Nat.le_refl _) hb | replace hN := Below.next2 hN (Nat.le_refl _) hb)) | ((first | replace hB := Below.next hB (Nat.le_refl _) hb | replace hB := Below.next1 hB (Nat.le_refl _) hb | replace hB := Below.next2 hB (Nat.le_refl _) hb); (first | replace hM := Below.next hM (Nat.le_refl _) hb | replace hM := Below.next1 hM (Nat.le_refl _) hb | replace hM := Below.next2 hM (Nat.le_refl _) hb); have hN := Below.mid hb) | ((first | replace hB := Below.next hB (Nat.le_refl _) hb | replace hB := Below.next1 hB (Nat.le_refl _) hb | replace hB := Below.next2 hB (Nat.le_refl _) hb); (first | replace hM := Below.next hM (Nat.le_refl _) hb | replace hM := Below.next1 hM (Nat.le_refl _) hb | replace hM := Below.next2 hM (Nat.le_refl _) hb)) | ((first | replace hB := Below.next hB (Nat.le_refl _) hb | replace hB := Below.next1 hB (Nat.le_refl _) hb | replace hB := Below.next2 hB (Nat.le_refl _) hb); have hM := Below.mid hb) | (first | replace hB := Below.next hB (Nat.le_refl _) hb | replace hB := Below.next1 hB (Nat.le_refl _) hb | replace hB := Below.next2 hB (Nat.le_refl _) hb) | have hB := hb); obtain ⟨hc, hf, hz⟩ := after hB; (try (have hq := after hM; obtain ⟨hcM, hfM, hzM⟩ := hq)); (try (have hq := after hN; obtain ⟨hcN, hfN, hzN⟩ := hq)); have hs := hb.size; (try simp at hz); (try simp at hs))
        | (go_at_call 18; refine (small_any _ a _ (h0.below hB)).mono ?_; rw [hS'.out]; rintro e w' ⟨rfl, hb⟩; (try clear hc hf); (try clear hcM hfM); (try clear hcN hfN); (first | ((first | replace hB := Below.next hB (Nat.le_refl _) hb | replace hB := Below.next1 hB (Nat.le_refl _) hb | replace hB := Below.next2 hB (Nat.le_refl _) hb); (first | replace hM := Below.next hM (Nat.le_refl _) hb | replace hM := Below.next1 hM (Nat.le_refl _) hb | replace hM := Below.next2 hM (Nat.le_refl _) hb); (first | replace hN := Below.next hN (Nat.le_refl _) hb | replace hN := Below.next1 hN (Nat.le_refl _) hb | replace hN := Below.next2 hN (Nat.le_refl _) hb)) | ((first | replace hB := Below.next hB (Nat.le_refl _) hb | replace hB := Below.next1 hB (Nat.le_refl _) hb | replace hB := Below.next2 hB (Nat.le_refl _) hb); (first | replace hM := Below.next hM (Nat.le_refl _) hb | replace hM := Below.next1 hM (Nat.le_refl _) hb | replace hM := Below.next2 hM (Nat.le_refl _) hb); have hN := Below.mid hb) | ((first | replace hB := Below.next hB (Nat.le_refl _) hb | replace hB := Below.next1 hB (Nat.le_refl _) hb | replace hB := Below.next2 hB (Nat.le_refl _) hb); (first | replace hM := Below.next hM (Nat.le_refl _) hb | replace hM := Below.next1 hM (Nat.le_refl _) hb | replace hM := Below.next2 hM (Nat.le_refl _) hb)) | ((first | replace hB := Below.next hB (Nat.le_refl _) hb | replace hB := Below.next1 hB (Nat.le_refl _) hb | replace hB := Below.next2 hB (Nat.le_refl _) hb); have hM := Below.mid hb) | (first | replace hB := Below.next hB (Nat.le_refl _) hb | replace hB := Below.next1 hB (Nat.le_refl _) hb | replace hB := Below.next2 hB (Nat.le_refl _) hb) | have hB := hb); obtain ⟨hc, hf, hz⟩ := after hB; (try (have hq := after hM; obtain ⟨hcM, hfM, hzM⟩ := hq)); (try (have hq := after hN; obtain ⟨hcN, hfN, hzN⟩ := hq)); have hs := hb.size; (try simp at hz); (try simp at hs))
        | (go_at_call 19; refine (t1.out _ (h0.below hB) (hv0.below hB)).mono ?_; rintro e w3 ⟨u1, rfl, hr1, hb3⟩; have hK := Below.next hB (Nat.le_refl _) hb3)
        | (go_at_call 20; refine (t2.out _ (h0.below hK) (hv0.below hK)).mono ?_; rintro e w4 ⟨u2, rfl, hr2, hb4⟩; replace hK := Below.next hK (Nat.le_refl _) hb4; replace hr1 := hr1.below hb4)
        | (go_at_call 21; refine (t3.out _ (h0.below hK)).mono ?_; rintro e w5 ⟨rfl, hb5⟩; replace hK := Below.next hK (Nat.le_refl _) hb5; replace hr1 := hr1.below hb5; replace hr2 := hr2.below hb5)
        | (go_at_call 22; refine (t4.out _ (h0.below hK)).mono ?_; rintro e w6 ⟨rfl, hb6⟩; replace hK := Below.next hK (Nat.le_refl _) hb6; replace hr1 := hr1.below hb6; replace hr2 := hr2.below hb6)
        | (go_at_call 23; refine (numbers_any _ _ _ _ hr1 hr2).mono ?_; rintro e w7 ⟨rfl, hb7⟩; replace hK := Below.next hK (Nat.le_refl _) hb7))
      go_ret
      exact ⟨rfl, hK⟩
section
variable {H : Type} {enc : TypeId × Value → H} {w : World} {base : Nat} {held : Bool}
theorem row_of_cells {v : Value} {a' : Option Addr} {l c : Nat} {Z : List Int} (hv : v = .slice a' l c) (hl : l ≤ c) (hc : c ≤ maxLen) (hz : Z.length = c) (h0 : a' = none → c = 0)
    (hx : ∀ a, a' = some a → ∀ i, i < c → w.cell? (a.add i) = some (.int .i64 (Z.getD i 0))) : Row w v (Z.take l) := by
  subst hv
  have hlen : (Z.take l).length = l := by rw [List.length_take]; omega
  rcases Nat.eq_zero_or_pos l with hl0 | hl0
  · subst hl0
    exact ⟨a', 0, 0, c, by simp, fun h => by simp at h, by simp, hc, fun i x h => by simp at h⟩
  · obtain ⟨a, rfl⟩ : ∃ a, a' = some a := by
      cases a' with
      | none => have := h0 rfl; omega
      | some a => exact ⟨a, rfl⟩
    have hx' := hx a rfl
    obtain ⟨b, off, spot⟩ := a
    have hspot : spot = none := by simpa [Addr.add] using World.cell?_spot (hx' 0 (by omega))
    subst hspot
    refine ⟨_, b, off, c, by rw [hlen], fun _ => rfl, by omega, hc, fun i x hi => ?_⟩
    have hil : i < l := by have := (List.getElem?_eq_some_iff.1 hi).1; omega
    have := hx' i (by omega)
    rw [Addr.add_lit] at this
    rw [this]
    rw [List.getElem?_take_of_lt hil] at hi
    simp [List.getD, hi]
set_option maxRecDepth 100000 in
/-- An argument that is a row of numbers. -/
theorem row_open {r : Reach} {b0 : Nat} {v : Value} {d : DataW H} {p : List MemPlace} (hv : Value.okWide Try.prog w r b0 23 v) (h : DataW.Trod enc Try.prog w base (fun _ => true) held 23 v d p) : ∃ l, Row w v l := by
  obtain ⟨pa, len, cap, rfl⟩ := Go.WideShapes.okWide_slice Try.underlying23 hv
  obtain ⟨fuel, hf⟩ := h
  rcases Go.ChangeShapes.open_ints Try.underlying23 Try.underlying2 (by kernel_rfl) hf with ⟨h1, _⟩ | ⟨a, l, c, zs, h1, h2, h3, h4, h5, h6, h7, h8⟩
  · simp only [Value.cells, List.cons.injEq, and_true, Value.slice.injEq] at h1
    obtain ⟨rfl, rfl, rfl⟩ := h1
    exact ⟨[], row_nil _⟩
  · simp only [Value.cells, List.cons.injEq, and_true] at h1
    simp only [if_true] at h5
    exact ⟨_, row_of_cells (Z := zs) h1 h3 h4 h5 (fun h => by cases h) (fun a' h i hi => by cases h; exact h7 i (by omega))⟩
set_option maxRecDepth 100000 in
/-- An argument that is a matrix. -/
theorem mat_open {r : Reach} {b0 : Nat} {v : Value} {d : DataW H} {p : List MemPlace} (hv : Value.okWide Try.prog w r b0 22 v) (h : DataW.Trod enc Try.prog w base (fun _ => true) held 22 v d p) : ∃ a, MatV w v a := by
  obtain ⟨pa, len, cap, rfl⟩ := Go.WideShapes.okWide_slice Try.underlying22 hv
  obtain ⟨fuel, hf⟩ := h
  rcases Go.Deep.open_int_rows Try.underlying22 Try.underlying23 Try.underlying2 (by kernel_rfl) (by kernel_rfl) hf with ⟨h1, _⟩ | ⟨a, l, c, A, L, C, Z, h1, h2, h3, h4, h5, h6⟩
  · simp only [Value.cells, List.cons.injEq, and_true, Value.slice.injEq] at h1
    obtain ⟨rfl, rfl, rfl⟩ := h1
    exact ⟨[], none, 0, 0, 0, rfl, fun h => by simp at h, by simp, by omega, fun i x h => by simp at h⟩
  · simp only [Value.cells, List.cons.injEq, and_true, Value.slice.injEq] at h1
    obtain ⟨rfl, rfl, rfl⟩ := h1
    obtain ⟨rs, e1, e2⟩ := exists_list (fun i (q : List Int) => ∃ u, w.cell? (a.add i) = some u ∧ Row w u q) len (fun i hi => by
      obtain ⟨k1, k2, k3, k4, k5, k6, k7⟩ := h6 i (by omega)
      exact ⟨(Z i).take (L i), _, k1, row_of_cells rfl k2 k3 k4 k6 (fun a' ha => (k7 a' ha).2)⟩)
    rcases Nat.eq_zero_or_pos len with h0 | h0
    · exact ⟨rs, some a, 0, 0, cap, by rw [e1], fun h => by omega, by omega, h4, fun i q hq => by have := (List.getElem?_eq_some_iff.1 hq).1; omega⟩
    · obtain ⟨b, off, spot⟩ := a
      obtain ⟨q0, hq0⟩ : ∃ q, rs[0]? = some q := ⟨_, List.getElem?_eq_getElem (by omega)⟩
      have hspot : spot = none := by
        obtain ⟨u, hu, _⟩ := e2 0 q0 hq0
        simpa [Addr.add] using World.cell?_spot hu
      subst hspot
      refine ⟨rs, _, b, off, cap, by rw [e1], fun _ => rfl, by omega, h4, fun i q hq => ?_⟩
      obtain ⟨u, c0, c1⟩ := e2 i q hq
      rw [Addr.add_lit] at c0
      exact ⟨u, c0, c1⟩
end
end Go.Proofs.Ytcppgigndpepnaa
