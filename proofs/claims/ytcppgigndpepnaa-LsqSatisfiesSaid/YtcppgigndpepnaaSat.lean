/-
  The walk of the statement that the solution satisfies every equation.
  Conditions: none.
-/
import Derived.Test.YtcppgigndpepnaaSolveLaws
import Derived.Test.YtcppgigndpepnaaAccept
namespace Go.Proofs.Ytcppgigndpepnaa
open Go.RowKit
theorem dot_next : ∀ (k : Nat) (r l : List Int) (n y : Int), r[k]? = some n → l[k]? = some y → rowDot (r.take (k + 1)) (l.take (k + 1)) = rowDot (r.take k) (l.take k) + n * y
  | 0, x :: r, z :: l, n, y, h1, h2 => by
    obtain rfl : x = n := by simpa using h1
    obtain rfl : z = y := by simpa using h2
    simp [rowDot]
  | k + 1, x :: r, z :: l, n, y, h1, h2 => by
    have ih := dot_next k r l n y (by simpa using h1) (by simpa using h2)
    simp only [List.take_succ_cons, rowDot] at ih ⊢
    rw [ih]; omega
  | _, [], _, _, _, h1, _ => by simp at h1
  | _, _ :: _, [], _, _, _, h2 => by simp at h2
def smallD (x : Int) : Prop := -6000000000000000000 ≤ x ∧ x ≤ 6000000000000000000
theorem dot_bd : ∀ (r l : List Int), (∀ x ∈ r, okE x = true) → (∀ x ∈ l, smallD x) → -((r.length : Int) * 6000000000000000000000000) ≤ rowDot r l ∧ rowDot r l ≤ (r.length : Int) * 6000000000000000000000000
  | [], l, _, _ => by simp [rowDot]
  | x :: r, [], _, _ => by simp only [rowDot]; omega
  | x :: r, z :: l, h1, h2 => by
    have ih := dot_bd r l (fun y hy => h1 y (by simp [hy])) (fun y hy => h2 y (by simp [hy]))
    have hx := okE_iff (h1 x (by simp))
    have hz := h2 z (by simp)
    unfold smallD at hz
    have q := mul_bd (A := 1000000) (B := 6000000000000000000) (a := x) (b := z) (by omega) (by omega) (by omega) (by omega)
    simp only [rowDot, List.length_cons, Int.natCast_add, Int.natCast_one, Int.add_mul, Int.one_mul]
    omega
theorem sol_small {a : Mat} {b : List Int} (h : matE a = 0) (hb : b.all okE = true) : ∀ x ∈ solL a b, smallD x := by
  intro x hx
  unfold solL at hx
  obtain ⟨k, _, rfl⟩ := List.mem_map.1 hx
  exact det_bd (withCol_ok k h hb)
theorem solvE_zero {a : Mat} {b : List Int} (h : solvE a b = 0) : matE a = 0 ∧ b.length = a.length ∧ b.all okE = true ∧ detL a ≠ 0 := by
  unfold solvE at h
  split at h
  · rename_i h1; exact absurd h h1
  · rename_i h1
    split at h
    · omega
    · rename_i h2
      split at h
      · rename_i h3
        split at h
        · omega
        · rename_i h4; exact ⟨by omega, by omega, h3, h4⟩
      · omega
set_option maxRecDepth 100000 in
set_option maxHeartbeats 40000000 in
theorem lsqSatisfies_walk (v vb : Value) (a : Mat) (bs : List Int) (w : World) (h : MatV w v a) (hv : Row w vb bs) : Calls Try.prog 12 #[v, vb] w fun e w' => e = .returned (.bool true) ∧ Below w.heap.size w w' := by
  have h0 := h
  have hv0 := hv
  obtain ⟨pa, b, o, cap, rfl, h1, h2, h3, h4⟩ := h
  obtain ⟨pb, bb, bo, bc, rfl, g1, g2, g3, g4⟩ := hv
  have hbc : bc ≤ 9223372036854775807 := by unfold maxLen at g3; omega
  have hcap : cap ≤ 9223372036854775807 := by unfold maxLen at h3; omega
  generalize hS : smallB a = sb
  have hS' := Lib.hid hS
  clear hS
  cases sb with
  | false =>
    clear h1 h4 g1 g4
    go_enter Try.func12, Try.ntmps12
    go_wp2_with (first
      | (go_at_call 17; refine (awake30_any _).mono ?_; rintro e w' ⟨rfl, hb⟩; (try clear hc hf); (try clear hcM hfM); (try clear hcN hfN); (first | ((first | replace hB := Below.next hB (Nat.le_refl _) hb | replace hB := Below.next1 hB (Nat.le_refl _) hb | replace hB := Below.next2 hB (Nat.le_refl _) hb); (first | replace hM := Below.next hM (Nat.le_refl _) hb | replace hM := Below.next1 hM (Nat.le_refl _) hb | replace hM := Below.next2 hM (Nat.le_refl _) hb); (first | replace hN := Below.next hN (Nat.le_refl _) hb | replace hN := Below.next1 hN (Nat.le_refl _) hb | replace hN := Below.next2 hN (Nat.le_refl _) hb)) | ((first | replace hB := Below.next hB (Nat.le_refl _) hb | replace hB := Below.next1 hB (Nat.le_refl _) hb | replace hB := Below.next2 hB (Nat.le_refl _) hb); (first | replace hM := Below.next hM (Nat.le_refl _) hb | replace hM := Below.next1 hM (Nat.le_refl _) hb | replace hM := Below.next2 hM (Nat.le_refl _) hb); have hN := Below.mid hb) | ((first | replace hB := Below.next hB (Nat.le_refl _) hb | replace hB := Below.next1 hB (Nat.le_refl _) hb | replace hB := Below.next2 hB (Nat.le_refl _) hb); (first | replace hM := Below.next hM (Nat.le_refl _) hb | replace hM := Below.next1 hM (Nat.le_refl _) hb | replace hM := Below.next2 hM (Nat.le_refl _) hb)) | ((first | replace hB := Below.next hB (Nat.le_refl _) hb | replace hB := Below.next1 hB (Nat.le_refl _) hb | replace hB := Below.next2 hB (Nat.le_refl _) hb); have hM := Below.mid hb) | (first | replace hB := Below.next hB (Nat.le_refl _) hb | replace hB := Below.next1 hB (Nat.le_refl _) hb | replace hB := Below.next2 hB (Nat.le_refl _) hb) | have hB := hb); obtain ⟨hc, hf, hz⟩ := after hB; (try (have hq := after hM; obtain ⟨hcM, hfM, hzM⟩ := hq)); (try (have hq := after hN; obtain ⟨hcN, hfN, hzN⟩ := hq)); have hs := hb.size; (try simp at hz); (try simp at hs))
      | (go_at_call 18; refine (small_any _ a _ (h0.below hB)).mono ?_; rw [hS'.out]; rintro e w' ⟨rfl, hb⟩; (try clear hc hf); (try clear hcM hfM); (try clear hcN hfN); (first | ((first | replace hB := Below.next hB (Nat.le_refl _) hb | replace hB := Below.next1 hB (Nat.le_refl _) hb | replace hB := Below.next2 hB (Nat.le_refl _) hb); (first | replace hM := Below.next hM (Nat.le_refl _) hb | replace hM := Below.next1 hM (Nat.le_refl _) hb | replace hM := Below.next2 hM (Nat.le_refl _) hb); (first | replace hN := Below.next hN (Nat.le_refl _) hb | replace hN := Below.next1 hN (Nat.le_refl _) hb | replace hN := Below.next2 hN (Nat.le_refl _) hb)) | ((first | replace hB := Below.next hB (Nat.le_refl _) hb | replace hB := Below.next1 hB (Nat.le_refl _) hb | replace hB := Below.next2 hB (Nat.le_refl _) hb); (first | replace hM := Below.next hM (Nat.le_refl _) hb | replace hM := Below.next1 hM (Nat.le_refl _) hb | replace hM := Below.next2 hM (Nat.le_refl _) hb); have hN := Below.mid hb) | ((first | replace hB := Below.next hB (Nat.le_refl _) hb | replace hB := Below.next1 hB (Nat.le_refl _) hb | replace hB := Below.next2 hB (Nat.le_refl _) hb); (first | replace hM := Below.next hM (Nat.le_refl _) hb | replace hM := Below.next1 hM (Nat.le_refl _) hb | replace hM := Below.next2 hM (Nat.le_refl _) hb)) | ((first | replace hB := Below.next hB (Nat.le_refl _) hb | replace hB := Below.next1 hB (Nat.le_refl _) hb | replace hB := Below.next2 hB (Nat.le_refl _) hb); have hM := Below.mid hb) | (first | replace hB := Below.next hB (Nat.le_refl _) hb | replace hB := Below.next1 hB (Nat.le_refl _) hb | replace hB := Below.next2 hB (Nat.le_refl _) hb) | have hB := hb); obtain ⟨hc, hf, hz⟩ := after hB; (try (have hq := after hM; obtain ⟨hcM, hfM, hzM⟩ := hq)); (try (have hq := after hN; obtain ⟨hcN, hfN, hzN⟩ := hq)); have hs := hb.size; (try simp at hz); (try simp at hs)))
    go_ret
    exact ⟨rfl, (by repeat (first | with_reducible exact Below.refl _ _ | with_reducible assumption | with_reducible refine Below.drew ?_ | with_reducible refine Below.setCell ?_ (by first | omega | (simp; omega) | simp) _ | with_reducible refine Below.alloc ?_ (by first | omega | (simp; omega) | simp) _ | with_reducible refine Below.trans ?_ (Below.mono (by with_reducible assumption) (by first | omega | (simp; omega) | simp))))⟩
  | true =>
    rcases Nat.lt_or_ge 8 bs.length with hlt | hge
    · clear h1 h4 g1 g4
      go_enter Try.func12, Try.ntmps12
      go_wp2_with (first
        | (go_at_call 17; refine (awake30_any _).mono ?_; rintro e w' ⟨rfl, hb⟩; (try clear hc hf); (try clear hcM hfM); (try clear hcN hfN); (first | ((first | replace hB := Below.next hB (Nat.le_refl _) hb | replace hB := Below.next1 hB (Nat.le_refl _) hb | replace hB := Below.next2 hB (Nat.le_refl _) hb); (first | replace hM := Below.next hM (Nat.le_refl _) hb | replace hM := Below.next1 hM (Nat.le_refl _) hb | replace hM := Below.next2 hM (Nat.le_refl _) hb); (first | replace hN := Below.next hN (Nat.le_refl _) hb | replace hN := Below.next1 hN (Nat.le_refl _) hb | replace hN := Below.next2 hN (Nat.le_refl _) hb)) | ((first | replace hB := Below.next hB (Nat.le_refl _) hb | replace hB := Below.next1 hB (Nat.le_refl _) hb | replace hB := Below.next2 hB (Nat.le_refl _) hb); (first | replace hM := Below.next hM (Nat.le_refl _) hb | replace hM := Below.next1 hM (Nat.le_refl _) hb | replace hM := Below.next2 hM (Nat.le_refl _) hb); have hN := Below.mid hb) | ((first | replace hB := Below.next hB (Nat.le_refl _) hb | replace hB := Below.next1 hB (Nat.le_refl _) hb | replace hB := Below.next2 hB (Nat.le_refl _) hb); (first | replace hM := Below.next hM (Nat.le_refl _) hb | replace hM := Below.next1 hM (Nat.le_refl _) hb | replace hM := Below.next2 hM (Nat.le_refl _) hb)) | ((first | replace hB := Below.next hB (Nat.le_refl _) hb | replace hB := Below.next1 hB (Nat.le_refl _) hb | replace hB := Below.next2 hB (Nat.le_refl _) hb); have hM := Below.mid hb) | (first | replace hB := Below.next hB (Nat.le_refl _) hb | replace hB := Below.next1 hB (Nat.le_refl _) hb | replace hB := Below.next2 hB (Nat.le_refl _) hb) | have hB := hb); obtain ⟨hc, hf, hz⟩ := after hB; (try (have hq := after hM; obtain ⟨hcM, hfM, hzM⟩ := hq)); (try (have hq := after hN; obtain ⟨hcN, hfN, hzN⟩ := hq)); have hs := hb.size; (try simp at hz); (try simp at hs))
        | (go_at_call 18; refine (small_any _ a _ (h0.below hB)).mono ?_; rw [hS'.out]; rintro e w' ⟨rfl, hb⟩; (try clear hc hf); (try clear hcM hfM); (try clear hcN hfN); (first | ((first | replace hB := Below.next hB (Nat.le_refl _) hb | replace hB := Below.next1 hB (Nat.le_refl _) hb | replace hB := Below.next2 hB (Nat.le_refl _) hb); (first | replace hM := Below.next hM (Nat.le_refl _) hb | replace hM := Below.next1 hM (Nat.le_refl _) hb | replace hM := Below.next2 hM (Nat.le_refl _) hb); (first | replace hN := Below.next hN (Nat.le_refl _) hb | replace hN := Below.next1 hN (Nat.le_refl _) hb | replace hN := Below.next2 hN (Nat.le_refl _) hb)) | ((first | replace hB := Below.next hB (Nat.le_refl _) hb | replace hB := Below.next1 hB (Nat.le_refl _) hb | replace hB := Below.next2 hB (Nat.le_refl _) hb); (first | replace hM := Below.next hM (Nat.le_refl _) hb | replace hM := Below.next1 hM (Nat.le_refl _) hb | replace hM := Below.next2 hM (Nat.le_refl _) hb); have hN := Below.mid hb) | ((first | replace hB := Below.next hB (Nat.le_refl _) hb | replace hB := Below.next1 hB (Nat.le_refl _) hb | replace hB := Below.next2 hB (Nat.le_refl _) hb); (first | replace hM := Below.next hM (Nat.le_refl _) hb | replace hM := Below.next1 hM (Nat.le_refl _) hb | replace hM := Below.next2 hM (Nat.le_refl _) hb)) | ((first | replace hB := Below.next hB (Nat.le_refl _) hb | replace hB := Below.next1 hB (Nat.le_refl _) hb | replace hB := Below.next2 hB (Nat.le_refl _) hb); have hM := Below.mid hb) | (first | replace hB := Below.next hB (Nat.le_refl _) hb | replace hB := Below.next1 hB (Nat.le_refl _) hb | replace hB := Below.next2 hB (Nat.le_refl _) hb) | have hB := hb); obtain ⟨hc, hf, hz⟩ := after hB; (try (have hq := after hM; obtain ⟨hcM, hfM, hzM⟩ := hq)); (try (have hq := after hN; obtain ⟨hcN, hfN, hzN⟩ := hq)); have hs := hb.size; (try simp at hz); (try simp at hs)))
      go_ret
      exact ⟨rfl, (by repeat (first | with_reducible exact Below.refl _ _ | with_reducible assumption | with_reducible refine Below.drew ?_ | with_reducible refine Below.setCell ?_ (by first | omega | (simp; omega) | simp) _ | with_reducible refine Below.alloc ?_ (by first | omega | (simp; omega) | simp) _ | with_reducible refine Below.trans ?_ (Below.mono (by with_reducible assumption) (by first | omega | (simp; omega) | simp))))⟩
    by_cases he : solvE a bs = 0
    · obtain ⟨e1, e2, e3, e4⟩ := solvE_zero he
      have x1 : solvX a bs = solL a bs := by unfold solvX; rw [if_pos he]
      have x2 : solvD a bs = detL a := by unfold solvD; rw [if_pos he]
      have s1 : ∀ w, MatV w (.slice pa a.length cap) a → Row w (.slice pb bs.length bc) bs → Calls Try.prog 19 #[.slice pa a.length cap, .slice pb bs.length bc] w fun e w' => ∃ u, e = .returned (.tuple #[u, .int .i64 (detL a), .int .i64 0]) ∧ Row w' u (solL a bs) ∧ Below w.heap.size w w' := by
        intro w k1 k2; have := solve_any _ _ a bs w k1 k2; rwa [x1, x2, he] at this
      have t1 := Lib.hid s1
      have hd0 : (detL a == 0) = false := by simpa using e4
      have hlen := solL_len a bs
      have hm := matE_iff.1 e1
      have hal : 1 ≤ a.length ∧ a.length ≤ 3 := by omega
      obtain ⟨hal1, hal2⟩ := hal
      have hdb := det_bd e1
      obtain ⟨hdb1, hdb2⟩ := hdb
      have HM := Lib.hid hm
      have E1 := Lib.hid e1
      have E3 := Lib.hid e3
      have E2 := Lib.hid e2
      have hCR := Lib.hid (fun i row x => cramer e1 e2 i row x)
      have hXS := Lib.hid (sol_small e1 e3)
      rw [e2] at t1 hv0
      clear s1 he x1 x2 e1 e3 e4 hm
      generalize solL a bs = X at *
      generalize detL a = D at *
      go_enter Try.func12, Try.ntmps12
      go_wp2_with (first
        | (go_at_call 17; refine (awake30_any _).mono ?_; rintro e w' ⟨rfl, hb⟩; (try clear hc hf); (try clear hcM hfM); (try clear hcN hfN); (first | ((first | replace hB := Below.next hB (Nat.le_refl _) hb | replace hB := Below.next1 hB (Nat.le_refl _) hb | replace hB := Below.next2 hB (Nat.le_refl _) hb); (first | replace hM := Below.next hM (Nat.le_refl _) hb | replace hM := Below.next1 hM (Nat.le_refl _) hb | replace hM := Below.next2 hM (Nat.le_refl _) hb); (first | replace hN := Below.next hN (Nat.le_refl _) hb | replace hN := Below.next1 hN (Nat.le_refl _) hb | replace hN := Below.next2 hN (Nat.le_refl _) hb)) | ((first | replace hB := Below.next hB (Nat.le_refl _) hb | replace hB := Below.next1 hB (Nat.le_refl _) hb | replace hB := Below.next2 hB (Nat.le_refl _) hb); (first | replace hM := Below.next hM (Nat.le_refl _) hb | replace hM := Below.next1 hM (Nat.le_refl _) hb | replace hM := Below.next2 hM (Nat.le_refl _) hb); have hN := Below.mid hb) | ((first | replace hB := Below.next hB (Nat.le_refl _) hb | replace hB := Below.next1 hB (Nat.le_refl _) hb | replace hB := Below.next2 hB (Nat.le_refl _) hb); (first | replace hM := Below.next hM (Nat.le_refl _) hb | replace hM := Below.next1 hM (Nat.le_refl _) hb | replace hM := Below.next2 hM (Nat.le_refl _) hb)) | ((first | replace hB := Below.next hB (Nat.le_refl _) hb | replace hB := Below.next1 hB (Nat.le_refl _) hb | replace hB := Below.next2 hB (Nat.le_refl _) hb); have hM := Below.mid hb) | (first | replace hB := Below.next hB (Nat.le_refl _) hb | replace hB := Below.next1 hB (Nat.le_refl _) hb | replace hB := Below.next2 hB (Nat.le_refl _) hb) | have hB := hb); obtain ⟨hc, hf, hz⟩ := after hB; (try (have hq := after hM; obtain ⟨hcM, hfM, hzM⟩ := hq)); (try (have hq := after hN; obtain ⟨hcN, hfN, hzN⟩ := hq)); have hs := hb.size; (try simp at hz); (try simp at hs))
        | (go_at_call 18; refine (small_any _ a _ (h0.below hB)).mono ?_; rw [hS'.out]; rintro e w' ⟨rfl, hb⟩; (try clear hc hf); (try clear hcM hfM); (try clear hcN hfN); (first | ((first | replace hB := Below.next hB (Nat.le_refl _) hb | replace hB := Below.next1 hB (Nat.le_refl _) hb | replace hB := Below.next2 hB (Nat.le_refl _) hb); (first | replace hM := Below.next hM (Nat.le_refl _) hb | replace hM := Below.next1 hM (Nat.le_refl _) hb | replace hM := Below.next2 hM (Nat.le_refl _) hb); (first | replace hN := Below.next hN (Nat.le_refl _) hb | replace hN := Below.next1 hN (Nat.le_refl _) hb | replace hN := Below.next2 hN (Nat.le_refl _) hb)) | ((first | replace hB := Below.next hB (Nat.le_refl _) hb | replace hB := Below.next1 hB (Nat.le_refl _) hb | replace hB := Below.next2 hB (Nat.le_refl _) hb); (first | replace hM := Below.next hM (Nat.le_refl _) hb | replace hM := Below.next1 hM (Nat.le_refl _) hb | replace hM := Below.next2 hM (Nat.le_refl _) hb); have hN := Below.mid hb) | ((first | replace hB := Below.next hB (Nat.le_refl _) hb | replace hB := Below.next1 hB (Nat.le_refl _) hb | replace hB := Below.next2 hB (Nat.le_refl _) hb); (first | replace hM := Below.next hM (Nat.le_refl _) hb | replace hM := Below.next1 hM (Nat.le_refl _) hb | replace hM := Below.next2 hM (Nat.le_refl _) hb)) | ((first | replace hB := Below.next hB (Nat.le_refl _) hb | replace hB := Below.next1 hB (Nat.le_refl _) hb | replace hB := Below.next2 hB (Nat.le_refl _) hb); have hM := Below.mid hb) | (first | replace hB := Below.next hB (Nat.le_refl _) hb | replace hB := Below.next1 hB (Nat.le_refl _) hb | replace hB := Below.next2 hB (Nat.le_refl _) hb) | have hB := hb); obtain ⟨hc, hf, hz⟩ := after hB; (try (have hq := after hM; obtain ⟨hcM, hfM, hzM⟩ := hq)); (try (have hq := after hN; obtain ⟨hcN, hfN, hzN⟩ := hq)); have hs := hb.size; (try simp at hz); (try simp at hs))
        | (go_at_call 19; refine (t1.out _ (h0.below hB) (hv0.below hB)).mono ?_; rintro e w3 ⟨u1, rfl, hr1, hb3⟩; have hK := Below.next hB (Nat.le_refl _) hb3; obtain ⟨px, xb, xo, xc, rfl, y1, y2, y3, y4⟩ := hr1; rw [hlen] at y1 y2 ⊢; obtain rfl := y1 (by omega)))
      go_loopw [52] (fun x wr => ∃ i : Nat, i ≤ a.length ∧ x = .int .i64 i ∧ Below w3.heap.size w3 wr) (fun x _ => a.length - (intOf x).toNat)
      case atStart => exact ⟨0, by omega, rfl, Below.refl _ _⟩
      case round =>
        obtain ⟨i, hi, rfl, hb4⟩ := hrel
        have hK4 := Below.next hK (Nat.le_refl _) hb4
        rcases Nat.lt_or_ge i a.length with hlt | hge2
        · obtain rfl := h1 (by omega)
          obtain rfl := g1 (by omega)
          have hx := (after hK4).1
          obtain ⟨r, hr⟩ : ∃ r, a[i]? = some r := ⟨_, List.getElem?_eq_getElem hlt⟩
          obtain ⟨u, c0, hu⟩ := h4 i r hr
          replace c0 := (hx _ _ (by simp [c0])).trans c0
          obtain ⟨qa, qb, qo, qc, rfl, q1, q2, q3, q4⟩ := hu
          have hrl : r.length = a.length := HM.out.2.1 r (List.mem_of_getElem? hr)
          rw [hrl] at q1 q2
          obtain rfl := q1 (by omega)
          obtain ⟨y, hy⟩ : ∃ y, bs[i]? = some y := ⟨_, List.getElem?_eq_getElem (by rw [E2.out]; exact hlt)⟩
          have hcr := Lib.hid (hCR.out i r y hr hy)
          have hrok := Lib.hid (fun x hx => HM.out.2.2 r (List.mem_of_getElem? hr) x hx)
          have hyk := okE_iff (List.all_eq_true.1 E3.out y (List.mem_of_getElem? hy))
          obtain ⟨hyk1, hyk2⟩ := hyk
          have d0 := g4 i y hy
          replace d0 := (hx _ _ (by simp [d0])).trans d0
          have hR := Lib.hid hr
          have hn : a.length - (i + 1) < a.length - i := by omega
          rw [hrl] at c0
          clear hr hy hx
          go_wp2_with (go_at_call 40; refine (of_wide 0 (by omega) (by omega) _).mono ?_; rintro e wO ⟨rfl, hbO⟩; have hK5 := Below.next hK4 (Nat.le_refl _) hbO; have hB5 := Below.next hb4 (Nat.le_refl _) hbO)
          go_loopw [60] (fun x wr => ∃ k : Nat, k ≤ a.length ∧ x = .int .i64 k ∧ Below wO.heap.size wO wr ∧ wr.heap[wO.heap.size]? = some (.cells #[.int .i64 (rowDot (r.take k) (X.take k) / 18446744073709551616), .int .u64 (rowDot (r.take k) (X.take k) % 18446744073709551616)] 65 (0, 0))) (fun x _ => a.length - (intOf x).toNat)
          case atStart => exact ⟨0, by omega, rfl, (Below.refl _ _).alloc (Nat.le_refl _) _, by simpa [rowDot] using heap_new wO (.cells #[.int .i64 0, .int .u64 0] 65) rfl⟩
          case round =>
            obtain ⟨k, hk, rfl, hb6, hL0⟩ := hrel
            have hK6 := Below.next hK5 (Nat.le_refl _) hb6
            have hB6 := Below.next hB5 (Nat.le_refl _) hb6
            have hx6 := (after hK6).1
            have hsz := hb6.size
            have hlb : wO.heap.size < wr.heap.size := (Array.getElem?_eq_some_iff.1 hL0).1
            rcases Nat.lt_or_ge k a.length with hlt2 | hge3
            · obtain ⟨nn, hnn⟩ : ∃ nn, r[k]? = some nn := ⟨_, List.getElem?_eq_getElem (by omega)⟩
              obtain ⟨yy, hyy⟩ : ∃ yy, X[k]? = some yy := ⟨_, List.getElem?_eq_getElem (by omega)⟩
              have r0 := q4 k nn hnn
              replace r0 := (hx6 _ _ (by simp [r0])).trans r0
              have x0 := y4 k yy hyy
              replace x0 := ((after hB6).1 _ _ (by simp [x0])).trans x0
              obtain ⟨nb1, nb2⟩ := okE_iff (hrok.out nn (List.mem_of_getElem? hnn))
              obtain ⟨yb1, yb2⟩ := hXS.out yy (List.mem_of_getElem? hyy)
              have hdn := Lib.hid (dot_next k r X nn yy hnn hyy)
              have hdb := dot_bd (r.take k) (X.take k) (fun x hx => hrok.out x (List.mem_of_mem_take hx)) (fun x hx => hXS.out x (List.mem_of_mem_take hx))
              have hlk : (r.take k).length ≤ 3 := by rw [List.length_take]; omega
              have hp := mul_bd (A := 1000000) (B := 6000000000000000000) (a := nn) (b := yy) (by omega) (by omega) (by omega) (by omega)
              obtain ⟨hp1, hp2⟩ := hp
              have hn2 : a.length - (k + 1) < a.length - k := by omega
              generalize hS9 : rowDot (r.take k) (X.take k) = S at *
              have hs1 : -18000000000000000000000000 ≤ S := by omega
              have hs2 : S ≤ 18000000000000000000000000 := by omega
              clear hnn hyy hx6 hdb hS9
              have l00 := cell_heap (o := 0) hL0 rfl
              have l01 := cell_heap (o := 1) hL0 rfl
              go_wp2_with fail
              first
              | go_region_with (first
                  | (go_at_call 42; refine (mul_any nn yy (by omega) (by omega) (by omega) (by omega) _).mono ?_; rintro e v1 ⟨rfl, hv1⟩; have hK1 : Below wO.heap.size wO v1 := Below.trans (by repeat (first | with_reducible exact Below.refl _ _ | with_reducible assumption | with_reducible refine Below.drew ?_ | refine Below.setCell ?_ (by first | omega | (simp; done) | (simp; omega)) _ | refine Below.alloc ?_ (by first | omega | (simp; done) | (simp; omega)) _)) (hv1.mono (by first | (simp; done) | (simp; omega) | omega)); have hq1 := hv1.size; (try simp at hq1); have hL1 := heap_old hv1 (b := wO.heap.size) (o := (.cells #[.int .i64 ((S) / 18446744073709551616), .int .u64 ((S) % 18446744073709551616)] 65)) (by first | ((repeat (first | with_reducible assumption | with_reducible refine heap_drew ?_ | with_reducible refine heap_new _ _ (by first | rfl | (simp; done) | fail "no") | with_reducible apply heap_alloc )); done) | fail "no"); have l10 := cell_heap (o := 0) hL1 rfl; have l11 := cell_heap (o := 1) hL1 rfl; (first | (have hN1 := heap_old hv1 (b := wr.heap.size) (o := (.cells #[.int .i64 0, .int .u64 0] 65)) (by first | ((repeat (first | with_reducible assumption | with_reducible refine heap_drew ?_ | with_reducible refine heap_new _ _ (by first | rfl | (simp; done) | fail "no") | with_reducible apply heap_alloc )); done) | fail "no"); have n10 := cell_heap (o := 0) hN1 rfl; have n11 := cell_heap (o := 1) hN1 rfl; have n1f := frozen_heap (o := 0) hN1; have n1g := frozen_heap (o := 1) hN1) | skip))
                  | (go_at_call 41; refine (wadd_ok S (nn * yy) (by omega) (by omega) (by omega) (by omega) (by omega) (by omega) _).mono ?_; rintro e v2 ⟨rfl, hv2⟩; have hK2 : Below wO.heap.size wO v2 := Below.trans (by repeat (first | with_reducible exact Below.refl _ _ | with_reducible assumption | with_reducible refine Below.drew ?_ | refine Below.setCell ?_ (by first | omega | (simp; done) | (simp; omega)) _ | refine Below.alloc ?_ (by first | omega | (simp; done) | (simp; omega)) _)) (hv2.mono (by first | (simp; done) | (simp; omega) | omega)); have hq2 := hv2.size; (try simp at hq2); have hL2 := heap_old hv2 (b := wO.heap.size) (o := (.cells #[.int .i64 ((S) / 18446744073709551616), .int .u64 ((S) % 18446744073709551616)] 65)) (by first | ((repeat (first | with_reducible assumption | with_reducible refine heap_drew ?_ | with_reducible refine heap_new _ _ (by first | rfl | (simp; done) | fail "no") | with_reducible apply heap_alloc )); done) | fail "no"); have l20 := cell_heap (o := 0) hL2 rfl; have l21 := cell_heap (o := 1) hL2 rfl; have l2f := frozen_heap (o := 0) hL2; have l2g := frozen_heap (o := 1) hL2; (first | (have hN2 := heap_old hv2 (b := wr.heap.size) (o := (.cells #[.int .i64 0, .int .u64 0] 65)) (by first | ((repeat (first | with_reducible assumption | with_reducible refine heap_drew ?_ | with_reducible refine heap_new _ _ (by first | rfl | (simp; done) | fail "no") | with_reducible apply heap_alloc )); done) | fail "no"); have n20 := cell_heap (o := 0) hN2 rfl; have n21 := cell_heap (o := 1) hN2 rfl; have n2f := frozen_heap (o := 0) hN2; have n2g := frozen_heap (o := 1) hN2) | skip); (first | (have hN3 := heap_old hv2 (b := v1.heap.size) (o := (.cells #[.int .i64 0, .int .u64 0] 65)) (by first | ((repeat (first | with_reducible assumption | with_reducible refine heap_drew ?_ | with_reducible refine heap_new _ _ (by first | rfl | (simp; done) | fail "no") | with_reducible apply heap_alloc )); done) | fail "no"); have n30 := cell_heap (o := 0) hN3 rfl; have n31 := cell_heap (o := 1) hN3 rfl; have n3f := frozen_heap (o := 0) hN3; have n3g := frozen_heap (o := 1) hN3) | skip)))
              | fail
              all_goals
                go_wp2_with fail
                refine ⟨⟨k + 1, hlt2, by simp, (by repeat (first | with_reducible exact Below.refl _ _ | with_reducible assumption | with_reducible refine Below.drew ?_ | refine Below.setCell ?_ (by first | omega | (simp; done) | (simp; omega)) _ | refine Below.alloc ?_ (by first | omega | (simp; done) | (simp; omega)) _)), ?_⟩, by simpa [intOf] using hn2⟩
                rw [hdn.out]
                first
                | (have h9 := heap_set (o := 1) (v := .int .u64 ((S + nn * yy) % 18446744073709551616)) (heap_set (o := 0) (v := .int .i64 ((S + nn * yy) / 18446744073709551616)) (heap_set_other (g := wr.heap.size) (o := 1) (v := .int .u64 ((S + nn * yy) % 18446744073709551616)) (heap_set_other (g := wr.heap.size) (o := 0) (v := .int .i64 ((S + nn * yy) / 18446744073709551616)) hL2 (by omega)) (by omega))); simp only [List.setIfInBounds_toArray, List.set_cons_succ, List.set_cons_zero] at h9; exact h9)
                | (have h9 := heap_set (o := 1) (v := .int .u64 ((S + nn * yy) % 18446744073709551616)) (heap_set (o := 0) (v := .int .i64 ((S + nn * yy) / 18446744073709551616)) (heap_set_other (g := v1.heap.size) (o := 1) (v := .int .u64 ((S + nn * yy) % 18446744073709551616)) (heap_set_other (g := v1.heap.size) (o := 0) (v := .int .i64 ((S + nn * yy) / 18446744073709551616)) hL2 (by omega)) (by omega))); simp only [List.setIfInBounds_toArray, List.set_cons_succ, List.set_cons_zero] at h9; exact h9)
                | (have h9 := heap_set (o := 1) (v := .int .u64 ((S + nn * yy) % 18446744073709551616)) (heap_set (o := 0) (v := .int .i64 ((S + nn * yy) / 18446744073709551616)) (heap_alloc (X := .cells #[.int .i64 ((S + nn * yy) / 18446744073709551616), .int .u64 ((S + nn * yy) % 18446744073709551616)] 65) hL2)); simp only [List.setIfInBounds_toArray, List.set_cons_succ, List.set_cons_zero] at h9; exact h9)
            · have hdk : ¬k < a.length := by omega
              rw [List.take_of_length_le (by omega), List.take_of_length_le (by omega), hcr.out] at hL0
              have l00 := cell_heap (o := 0) hL0 rfl
              have l01 := cell_heap (o := 1) hL0 rfl
              replace d0 := ((after (Below.next hbO (Nat.le_refl _) hb6)).1 _ _ (by simp [d0])).trans d0
              go_wp2_with fail
              have hl := @Later.cell
              refine region_later (by kernel_rfl) (by kernel_rfl) ?_; (repeat (go_big_quiet_step ((go_at_call 42; exact Calls.later (mul_any _ _ (by omega) (by omega) (by omega) (by omega) _))))); refine wpQuiet_nil ?_; rintro _ ⟨x, rfl⟩; obtain ⟨w', hb⟩ := x; (try clear hc hf); (try clear hcM hfM); (try clear hcN hfN); (first | ((first | replace hB := Below.next hB (Nat.le_refl _) hb | replace hB := Below.next1 hB (Nat.le_refl _) hb | replace hB := Below.next2 hB (Nat.le_refl _) hb); (first | replace hM := Below.next hM (Nat.le_refl _) hb | replace hM := Below.next1 hM (Nat.le_refl _) hb | replace hM := Below.next2 hM (Nat.le_refl _) hb); (first | replace hN := Below.next hN (Nat.le_refl _) hb | replace hN := Below.next1 hN (Nat.le_refl _) hb | replace hN := Below.next2 hN (Nat.le_refl _) hb)) | ((first | replace hB := Below.next hB (Nat.le_refl _) hb | replace hB := Below.next1 hB (Nat.le_refl _) hb | replace hB := Below.next2 hB (Nat.le_refl _) hb); (first | replace hM := Below.next hM (Nat.le_refl _) hb | replace hM := Below.next1 hM (Nat.le_refl _) hb | replace hM := Below.next2 hM (Nat.le_refl _) hb); have hN := Below.mid hb) | ((first | replace hB := Below.next hB (Nat.le_refl _) hb | replace hB := Below.next1 hB (Nat.le_refl _) hb | replace hB := Below.next2 hB (Nat.le_refl _) hb); (first | replace hM := Below.next hM (Nat.le_refl _) hb | replace hM := Below.next1 hM (Nat.le_refl _) hb | replace hM := Below.next2 hM (Nat.le_refl _) hb)) | ((first | replace hB := Below.next hB (Nat.le_refl _) hb | replace hB := Below.next1 hB (Nat.le_refl _) hb | replace hB := Below.next2 hB (Nat.le_refl _) hb); have hM := Below.mid hb) | (first | replace hB := Below.next hB (Nat.le_refl _) hb | replace hB := Below.next1 hB (Nat.le_refl _) hb | replace hB := Below.next2 hB (Nat.le_refl _) hb) | have hB := hb); obtain ⟨hc, hf, hz⟩ := after hB; (try (have hq := after hM; obtain ⟨hcM, hfM, hzM⟩ := hq)); (try (have hq := after hN; obtain ⟨hcN, hfN, hzN⟩ := hq)); have hs := hb.size; (try simp at hz); (try simp at hs)
              have hB7 := Below.next hB6 (Nat.le_refl _) hb
              go_wp2_with fail
              exact ⟨⟨i + 1, hlt, by simp, hB7⟩, by simpa [intOf] using hn⟩
        · have hdi : ¬i < a.length := by omega
          go_wp2_with fail
          go_ret
          exact ⟨rfl, hK4⟩
    · have x1 : solvX a bs = [] := by unfold solvX; rw [if_neg he]
      have x2 : solvD a bs = 0 := by unfold solvD; rw [if_neg he]
      have hE1 : (solvE a bs != 0) = true := by simpa using he
      have s1 : ∀ w, MatV w (.slice pa a.length cap) a → Row w (.slice pb bs.length bc) bs → Calls Try.prog 19 #[.slice pa a.length cap, .slice pb bs.length bc] w fun e w' => ∃ u, e = .returned (.tuple #[u, .int .i64 0, .int .i64 (solvE a bs)]) ∧ Row w' u [] ∧ Below w.heap.size w w' := by
        intro w k1 k2; have := solve_any _ _ a bs w k1 k2; rwa [x1, x2] at this
      generalize solvE a bs = E at *
      have t1 := Lib.hid s1
      clear s1 x1 x2 he h1 h4 g1 g4
      go_enter Try.func12, Try.ntmps12
      go_wp2_with (first
        | (go_at_call 17; refine (awake30_any _).mono ?_; rintro e w' ⟨rfl, hb⟩; (try clear hc hf); (try clear hcM hfM); (try clear hcN hfN); (first | ((first | replace hB := Below.next hB (Nat.le_refl _) hb | replace hB := Below.next1 hB (Nat.le_refl _) hb | replace hB := Below.next2 hB (Nat.le_refl _) hb); (first | replace hM := Below.next hM (Nat.le_refl _) hb | replace hM := Below.next1 hM (Nat.le_refl _) hb | replace hM := Below.next2 hM (Nat.le_refl _) hb); (first | replace hN := Below.next hN (Nat.le_refl _) hb | replace hN := Below.next1 hN (Nat.le_refl _) hb | replace hN := Below.next2 hN (Nat.le_refl _) hb)) | ((first | replace hB := Below.next hB (Nat.le_refl _) hb | replace hB := Below.next1 hB (Nat.le_refl _) hb | replace hB := Below.next2 hB (Nat.le_refl _) hb); (first | replace hM := Below.next hM (Nat.le_refl _) hb | replace hM := Below.next1 hM (Nat.le_refl _) hb | replace hM := Below.next2 hM (Nat.le_refl _) hb); have hN := Below.mid hb) | ((first | replace hB := Below.next hB (Nat.le_refl _) hb | replace hB := Below.next1 hB (Nat.le_refl _) hb | replace hB := Below.next2 hB (Nat.le_refl _) hb); (first | replace hM := Below.next hM (Nat.le_refl _) hb | replace hM := Below.next1 hM (Nat.le_refl _) hb | replace hM := Below.next2 hM (Nat.le_refl _) hb)) | ((first | replace hB := Below.next hB (Nat.le_refl _) hb | replace hB := Below.next1 hB (Nat.le_refl _) hb | replace hB := Below.next2 hB (Nat.le_refl _) hb); have hM := Below.mid hb) | (first | replace hB := Below.next hB (Nat.le_refl _) hb | replace hB := Below.next1 hB (Nat.le_refl _) hb | replace hB := Below.next2 hB (Nat.le_refl _) hb) | have hB := hb); obtain ⟨hc, hf, hz⟩ := after hB; (try (have hq := after hM; obtain ⟨hcM, hfM, hzM⟩ := hq)); (try (have hq := after hN; obtain ⟨hcN, hfN, hzN⟩ := hq)); have hs := hb.size; (try simp at hz); (try simp at hs))
        | (go_at_call 18; refine (small_any _ a _ (h0.below hB)).mono ?_; rw [hS'.out]; rintro e w' ⟨rfl, hb⟩; (try clear hc hf); (try clear hcM hfM); (try clear hcN hfN); (first | ((first | replace hB := Below.next hB (Nat.le_refl _) hb | replace hB := Below.next1 hB (Nat.le_refl _) hb | replace hB := Below.next2 hB (Nat.le_refl _) hb); (first | replace hM := Below.next hM (Nat.le_refl _) hb | replace hM := Below.next1 hM (Nat.le_refl _) hb | replace hM := Below.next2 hM (Nat.le_refl _) hb); (first | replace hN := Below.next hN (Nat.le_refl _) hb | replace hN := Below.next1 hN (Nat.le_refl _) hb | replace hN := Below.next2 hN (Nat.le_refl _) hb)) | ((first | replace hB := Below.next hB (Nat.le_refl _) hb | replace hB := Below.next1 hB (Nat.le_refl _) hb | replace hB := Below.next2 hB (Nat.le_refl _) hb); (first | replace hM := Below.next hM (Nat.le_refl _) hb | replace hM := Below.next1 hM (Nat.le_refl _) hb | replace hM := Below.next2 hM (Nat.le_refl _) hb); have hN := Below.mid hb) | ((first | replace hB := Below.next hB (Nat.le_refl _) hb | replace hB := Below.next1 hB (Nat.le_refl _) hb | replace hB := Below.next2 hB (Nat.le_refl _) hb); (first | replace hM := Below.next hM (Nat.le_refl _) hb | replace hM := Below.next1 hM (Nat.le_refl _) hb | replace hM := Below.next2 hM (Nat.le_refl _) hb)) | ((first | replace hB := Below.next hB (Nat.le_refl _) hb | replace hB := Below.next1 hB (Nat.le_refl _) hb | replace hB := Below.next2 hB (Nat.le_refl _) hb); have hM := Below.mid hb) | (first | replace hB := Below.next hB (Nat.le_refl _) hb | replace hB := Below.next1 hB (Nat.le_refl _) hb | replace hB := Below.next2 hB (Nat.le_refl _) hb) | have hB := hb); obtain ⟨hc, hf, hz⟩ := after hB; (try (have hq := after hM; obtain ⟨hcM, hfM, hzM⟩ := hq)); (try (have hq := after hN; obtain ⟨hcN, hfN, hzN⟩ := hq)); have hs := hb.size; (try simp at hz); (try simp at hs))
        | (go_at_call 19; refine (t1.out _ (h0.below hB) (hv0.below hB)).mono ?_; rintro e w3 ⟨u1, rfl, hr1, hb3⟩; have hK := Below.next hB (Nat.le_refl _) hb3; obtain ⟨px, xb, xo, xc, rfl, y1, y2, y3, y4⟩ := hr1))
      go_ret
      exact ⟨rfl, hK⟩
end Go.Proofs.Ytcppgigndpepnaa
