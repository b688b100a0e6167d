/-
  Contract of the reference's Solve.
  Conditions: none.
-/
import Derived.Test.YtcppgigndpepnaaWith
namespace Go.Proofs.Ytcppgigndpepnaa
open Go.RowKit
set_option maxRecDepth 100000 in
set_option maxHeartbeats 8000000 in
theorem rsolve_good (v vb : Value) (a : Mat) (bs : List Int) (w : World) (h : MatV w v a) (hv : Row w vb bs) (he : matE a = 0) (hl : bs.length = a.length) (hk : bs.all okE = true) (hd : detL a ≠ 0) : Calls Try.prog 20 #[v, vb] w fun e w' => ∃ u, e = .returned (.tuple #[u, .int .i64 (detL a), .int .i64 0]) ∧ Row w' u (solL a bs) ∧ Below w.heap.size w w' := by
  have h0 := h
  have hv0 := hv
  have hm := matE_iff.1 he
  obtain ⟨pa, b, o, cap, rfl, h1, h2, h3, h4⟩ := h
  obtain ⟨pb, bb, bo, bc, rfl, g1, g2, g3, g4⟩ := hv
  obtain ⟨i0, hi0, hz0, hz1, hz2⟩ := info_parts (P := Try.prog) (e := 2) (z := .int .i64 0) (size := 1) (bytes := 8) (by kernel_rfl)
  have hal : 1 ≤ a.length ∧ a.length ≤ 3 := by omega
  obtain ⟨hal1, hal2⟩ := hal
  rw [hl] at hv0
  have hd' : (detL a == 0) = false := by simpa using hd
  have hM := Lib.hid hm
  have hK := Lib.hid hk
  have hE := Lib.hid he
  clear hm hd hk h4 h1
  have he' : (matE a != 0) = false := by simp [he]
  clear he
  go_enter Try.func20, Try.ntmps20
  go_wp2_with (go_at_call 53; refine (rshape_any _ _ _ h0).mono ?_; rintro e w' ⟨rfl, hb⟩; (try clear hc hf); (try clear hcM hfM); (try clear hcN hfN); (first | ((first | replace hB := Below.next hB (Nat.le_refl _) hb | replace hB := Below.next1 hB (Nat.le_refl _) hb | replace hB := Below.next2 hB (Nat.le_refl _) hb); (first | replace hM := Below.next hM (Nat.le_refl _) hb | replace hM := Below.next1 hM (Nat.le_refl _) hb | replace hM := Below.next2 hM (Nat.le_refl _) hb); (first | replace hN := Below.next hN (Nat.le_refl _) hb | replace hN := Below.next1 hN (Nat.le_refl _) hb | replace hN := Below.next2 hN (Nat.le_refl _) hb)) | ((first | replace hB := Below.next hB (Nat.le_refl _) hb | replace hB := Below.next1 hB (Nat.le_refl _) hb | replace hB := Below.next2 hB (Nat.le_refl _) hb); (first | replace hM := Below.next hM (Nat.le_refl _) hb | replace hM := Below.next1 hM (Nat.le_refl _) hb | replace hM := Below.next2 hM (Nat.le_refl _) hb); have hN := Below.mid hb) | ((first | replace hB := Below.next hB (Nat.le_refl _) hb | replace hB := Below.next1 hB (Nat.le_refl _) hb | replace hB := Below.next2 hB (Nat.le_refl _) hb); (first | replace hM := Below.next hM (Nat.le_refl _) hb | replace hM := Below.next1 hM (Nat.le_refl _) hb | replace hM := Below.next2 hM (Nat.le_refl _) hb)) | ((first | replace hB := Below.next hB (Nat.le_refl _) hb | replace hB := Below.next1 hB (Nat.le_refl _) hb | replace hB := Below.next2 hB (Nat.le_refl _) hb); have hM := Below.mid hb) | (first | replace hB := Below.next hB (Nat.le_refl _) hb | replace hB := Below.next1 hB (Nat.le_refl _) hb | replace hB := Below.next2 hB (Nat.le_refl _) hb) | have hB := hb); obtain ⟨hc, hf, hz⟩ := after hB; (try (have hq := after hM; obtain ⟨hcM, hfM, hzM⟩ := hq)); (try (have hq := after hN; obtain ⟨hcN, hfN, hzN⟩ := hq)); have hs := hb.size; (try simp at hz); (try simp at hs))
  go_loopw [25] (fun x wr => ∃ i : Nat, i ≤ a.length ∧ x = .int .i64 i ∧ Below w.heap.size w wr) (fun x _ => a.length - (intOf x).toNat)
  case atStart => exact ⟨0, by omega, rfl, hB⟩
  case round =>
    obtain ⟨i, hi, rfl, hb1⟩ := hrel
    rcases Nat.lt_or_ge i a.length with hlt | hge
    · obtain rfl := g1 (by omega)
      have hx := (after hb1).1
      obtain ⟨y, hy⟩ : ∃ y, bs[i]? = some y := ⟨_, List.getElem?_eq_getElem (by omega)⟩
      have d0 := g4 i y hy
      replace d0 := (hx _ _ (by simp [d0])).trans d0
      have hy2 := List.all_eq_true.1 hK.out y (List.mem_of_getElem? hy)
      have hin : inB y 1000000 = true := by simpa [inB, okE] using hy2
      have hn : a.length - (i + 1) < a.length - i := by omega
      clear hy hx hy2
      go_wp2_with (go_at_call 54; refine (rout_any _ _ (by omega) (by omega) _).mono ?_; rintro e w' ⟨rfl, rfl⟩)
      exact ⟨⟨i + 1, hlt, by simp, hb1⟩, by simpa [intOf] using hn⟩
    · have hdi : ¬i < a.length := by omega
      go_wp2_with (go_at_call 55; refine (rdet_any _ _ _ (h0.below hb1) hE.out).mono ?_; rintro e w2 ⟨rfl, hb2⟩; replace hb1 := Below.next hb1 (Nat.le_refl _) hb2)
      go_loopw [11, 38] (fun u x wr => ∃ k : Nat, k ≤ a.length ∧ x = .int .i64 k ∧ Below w.heap.size w wr ∧ wr.ownsRow w.heap.size 2 1 u k (ints ((solL a bs).take k))) (fun _ x _ => a.length - (intOf x).toNat)
      case atStart => exact ⟨0, by omega, rfl, hb1, by simpa [ints] using World.ownsRow_nil _ _ _ _⟩
      case round =>
        obtain ⟨k, hk, rfl, hb2, hO⟩ := hrel
        rcases Nat.lt_or_ge k a.length with hlt2 | hge2
        · have hn2 : a.length - (k + 1) < a.length - k := by omega
          have hwc := Lib.hid (withCol_ok k hE.out hK.out)
          have hxl : (ints ((solL a bs).take k)).length = k * 1 := hO.1
          go_wp2_with (first
            | (go_at_call 56; refine (with_any _ _ _ _ _ _ (h0.below hb2) (hv0.below hb2) hE.out hl hlt2).mono ?_; rintro e w3 ⟨m, rfl, hm3, hb3⟩; replace hO := own_below hO hb3; have hB3 := Below.next hb2 (Nat.le_refl _) hb3)
            | (go_at_call 55; refine (rdet_any _ _ _ hm3 hwc.out).mono ?_; rintro e w4 ⟨rfl, hb4⟩; replace hO := own_below hO hb4; have hB4 := Below.next hB3 (Nat.le_refl _) hb4; have hs4 := hB4.size)
            | (at_builtin; refine wpList_append_own _ rfl _ _ 23 rfl w.heap.size 2 i0 (.int .i64 0) 1 8 Try.underlying23 hi0 hz0 hz1 hz2 rfl (by decide) _ _ _ rfl (hO.alloc _) ⟨w4.heap.size, 0, none⟩ 1 1 [.int .i64 (detL (withCol k a bs))] rfl rfl ?_ (fun x hx => by simp at hx; subst hx; rfl) (by unfold maxLen; omega) (by omega) (by simp; omega) ?_; rotate_left; intro m' w5 hown5 hg5 hnil5))
          · have hT : ints ((solL a bs).take (k + 1)) = ints ((solL a bs).take k) ++ [.int .i64 (detL (withCol k a bs))] := by rw [List.take_add_one, solL_at hlt2]; simp [ints]
            refine ⟨⟨k + 1, hlt2, by simp, ?_, ?_⟩, by simpa [intOf] using hn2⟩
            · exact (hB4.alloc (by omega) _).grown hg5 (by simp; omega) (fun q hq => (hO.lt q hq).1)
            · rw [hT]; exact hown5
          · exact cells_new _ _ _
        · have hdk : ¬k < a.length := by omega
          obtain rfl : k = a.length := by omega
          rw [List.take_of_length_le (by rw [solL_len]; exact Nat.le_refl _)] at hO
          have hO' : wr.ownsRow w.heap.size 2 1 u11 (solL a bs).length (ints (solL a bs)) := by rw [solL_len]; exact hO
          go_wp2_with fail
          refine bodyPost_ret (v := .tuple #[u11, .int .i64 (detL a), .int .i64 0]) (by simp only [results, Try.results20]; go_simp) rfl ⟨u11, rfl, row_own hO', hb2⟩
theorem rsolve_e1 (v vb : Value) (a : Mat) (w : World) (h : MatV w v a) (he : matE a ≠ 0) : Calls Try.prog 20 #[v, vb] w fun e w' => ∃ u, e = .returned (.tuple #[u, .int .i64 0, .int .i64 (matE a)]) ∧ Row w' u [] ∧ Below w.heap.size w w' := by
  have he' : (matE a != 0) = true := by simpa using he
  clear he
  go_enter Try.func20, Try.ntmps20
  go_wp2_with (go_at_call 53; refine (rshape_any _ _ _ h).mono ?_; rintro e w' ⟨rfl, hb⟩; (try clear hc hf); (try clear hcM hfM); (try clear hcN hfN); (first | ((first | replace hB := Below.next hB (Nat.le_refl _) hb | replace hB := Below.next1 hB (Nat.le_refl _) hb | replace hB := Below.next2 hB (Nat.le_refl _) hb); (first | replace hM := Below.next hM (Nat.le_refl _) hb | replace hM := Below.next1 hM (Nat.le_refl _) hb | replace hM := Below.next2 hM (Nat.le_refl _) hb); (first | replace hN := Below.next hN (Nat.le_refl _) hb | replace hN := Below.next1 hN (Nat.le_refl _) hb | replace hN := Below.next2 hN (Nat.le_refl _) hb)) | ((first | replace hB := Below.next hB (Nat.le_refl _) hb | replace hB := Below.next1 hB (Nat.le_refl _) hb | replace hB := Below.next2 hB (Nat.le_refl _) hb); (first | replace hM := Below.next hM (Nat.le_refl _) hb | replace hM := Below.next1 hM (Nat.le_refl _) hb | replace hM := Below.next2 hM (Nat.le_refl _) hb); have hN := Below.mid hb) | ((first | replace hB := Below.next hB (Nat.le_refl _) hb | replace hB := Below.next1 hB (Nat.le_refl _) hb | replace hB := Below.next2 hB (Nat.le_refl _) hb); (first | replace hM := Below.next hM (Nat.le_refl _) hb | replace hM := Below.next1 hM (Nat.le_refl _) hb | replace hM := Below.next2 hM (Nat.le_refl _) hb)) | ((first | replace hB := Below.next hB (Nat.le_refl _) hb | replace hB := Below.next1 hB (Nat.le_refl _) hb | replace hB := Below.next2 hB (Nat.le_refl _) hb); have hM := Below.mid hb) | (first | replace hB := Below.next hB (Nat.le_refl _) hb | replace hB := Below.next1 hB (Nat.le_refl _) hb | replace hB := Below.next2 hB (Nat.le_refl _) hb) | have hB := hb); obtain ⟨hc, hf, hz⟩ := after hB; (try (have hq := after hM; obtain ⟨hcM, hfM, hzM⟩ := hq)); (try (have hq := after hN; obtain ⟨hcN, hfN, hzN⟩ := hq)); have hs := hb.size; (try simp at hz); (try simp at hs))
  refine bodyPost_ret (v := .tuple #[.slice none 0 0, .int .i64 0, .int .i64 (matE a)]) (by simp only [results, Try.results20]; go_simp) rfl ⟨_, rfl, row_nil _, (by repeat (first | with_reducible exact Below.refl _ _ | with_reducible assumption | with_reducible refine Below.drew ?_ | with_reducible refine Below.setCell ?_ (by first | omega | (simp; omega) | simp) _ | with_reducible refine Below.alloc ?_ (by first | omega | (simp; omega) | simp) _ | with_reducible refine Below.trans ?_ (Below.mono (by with_reducible assumption) (by first | omega | (simp; omega) | simp))))⟩
set_option maxHeartbeats 4000000 in
theorem rsolve_e2 (v vb : Value) (a : Mat) (bs : List Int) (w : World) (h : MatV w v a) (hv : Row w vb bs) (he : matE a = 0) (hl : bs.length ≠ a.length) : Calls Try.prog 20 #[v, vb] w fun e w' => ∃ u, e = .returned (.tuple #[u, .int .i64 0, .int .i64 1]) ∧ Row w' u [] ∧ Below w.heap.size w w' := by
  have hl' : ((bs.length : Int) != (a.length : Int)) = true := by simp; omega
  have h0 := h
  obtain ⟨pa, b, o, cap, rfl, h1, h2, h3, h4⟩ := h
  obtain ⟨pb, bb, bo, bc, rfl, g1, g2, g3, g4⟩ := hv
  clear h1 h2 h3 h4 g1 g2 g3 g4
  go_enter Try.func20, Try.ntmps20
  go_wp2_with (go_at_call 53; refine (rshape_any _ _ _ h0).mono ?_; rintro e w' ⟨rfl, hb⟩; (try clear hc hf); (try clear hcM hfM); (try clear hcN hfN); (first | ((first | replace hB := Below.next hB (Nat.le_refl _) hb | replace hB := Below.next1 hB (Nat.le_refl _) hb | replace hB := Below.next2 hB (Nat.le_refl _) hb); (first | replace hM := Below.next hM (Nat.le_refl _) hb | replace hM := Below.next1 hM (Nat.le_refl _) hb | replace hM := Below.next2 hM (Nat.le_refl _) hb); (first | replace hN := Below.next hN (Nat.le_refl _) hb | replace hN := Below.next1 hN (Nat.le_refl _) hb | replace hN := Below.next2 hN (Nat.le_refl _) hb)) | ((first | replace hB := Below.next hB (Nat.le_refl _) hb | replace hB := Below.next1 hB (Nat.le_refl _) hb | replace hB := Below.next2 hB (Nat.le_refl _) hb); (first | replace hM := Below.next hM (Nat.le_refl _) hb | replace hM := Below.next1 hM (Nat.le_refl _) hb | replace hM := Below.next2 hM (Nat.le_refl _) hb); have hN := Below.mid hb) | ((first | replace hB := Below.next hB (Nat.le_refl _) hb | replace hB := Below.next1 hB (Nat.le_refl _) hb | replace hB := Below.next2 hB (Nat.le_refl _) hb); (first | replace hM := Below.next hM (Nat.le_refl _) hb | replace hM := Below.next1 hM (Nat.le_refl _) hb | replace hM := Below.next2 hM (Nat.le_refl _) hb)) | ((first | replace hB := Below.next hB (Nat.le_refl _) hb | replace hB := Below.next1 hB (Nat.le_refl _) hb | replace hB := Below.next2 hB (Nat.le_refl _) hb); have hM := Below.mid hb) | (first | replace hB := Below.next hB (Nat.le_refl _) hb | replace hB := Below.next1 hB (Nat.le_refl _) hb | replace hB := Below.next2 hB (Nat.le_refl _) hb) | have hB := hb); obtain ⟨hc, hf, hz⟩ := after hB; (try (have hq := after hM; obtain ⟨hcM, hfM, hzM⟩ := hq)); (try (have hq := after hN; obtain ⟨hcN, hfN, hzN⟩ := hq)); have hs := hb.size; (try simp at hz); (try simp at hs))
  refine bodyPost_ret (v := .tuple #[.slice none 0 0, .int .i64 0, .int .i64 1]) (by simp only [results, Try.results20]; go_simp) rfl ⟨_, rfl, row_nil _, (by repeat (first | with_reducible exact Below.refl _ _ | with_reducible assumption | with_reducible refine Below.drew ?_ | with_reducible refine Below.setCell ?_ (by first | omega | (simp; omega) | simp) _ | with_reducible refine Below.alloc ?_ (by first | omega | (simp; omega) | simp) _ | with_reducible refine Below.trans ?_ (Below.mono (by with_reducible assumption) (by first | omega | (simp; omega) | simp))))⟩
set_option maxHeartbeats 8000000 in
theorem rsolve_e3 (v vb : Value) (a : Mat) (bs : List Int) (w : World) (h : MatV w v a) (hv : Row w vb bs) (he : matE a = 0) (hl : bs.length = a.length) (hq : bs.all okE = false ∨ detL a = 0) (E : Int) (hE2 : bs.all okE = false → 2 = E) (hE14 : bs.all okE = true → 14 = E) : Calls Try.prog 20 #[v, vb] w fun e w' => ∃ u, e = .returned (.tuple #[u, .int .i64 0, .int .i64 E]) ∧ Row w' u [] ∧ Below w.heap.size w w' := by
  have h0 := h
  have hN : detN a = detL a := by unfold detN; rw [if_pos he]
  obtain ⟨pa, b, o, cap, rfl, h1, h2, h3, h4⟩ := h
  obtain ⟨pb, bb, bo, bc, rfl, g1, g2, g3, g4⟩ := hv
  have hQ := Lib.hid hq
  have hEa := Lib.hid hE2
  have hEb := Lib.hid hE14
  have hal : a.length ≤ 3 := by have := (matE_iff.1 he).1; omega
  have he' : (matE a != 0) = false := by simp [he]
  have hE := Lib.hid he
  clear hq hE2 hE14 h1 h2 h3 h4 he
  go_enter Try.func20, Try.ntmps20
  go_wp2_with (go_at_call 53; refine (rshape_any _ _ _ h0).mono ?_; rintro e w' ⟨rfl, hb⟩; (try clear hc hf); (try clear hcM hfM); (try clear hcN hfN); (first | ((first | replace hB := Below.next hB (Nat.le_refl _) hb | replace hB := Below.next1 hB (Nat.le_refl _) hb | replace hB := Below.next2 hB (Nat.le_refl _) hb); (first | replace hM := Below.next hM (Nat.le_refl _) hb | replace hM := Below.next1 hM (Nat.le_refl _) hb | replace hM := Below.next2 hM (Nat.le_refl _) hb); (first | replace hN := Below.next hN (Nat.le_refl _) hb | replace hN := Below.next1 hN (Nat.le_refl _) hb | replace hN := Below.next2 hN (Nat.le_refl _) hb)) | ((first | replace hB := Below.next hB (Nat.le_refl _) hb | replace hB := Below.next1 hB (Nat.le_refl _) hb | replace hB := Below.next2 hB (Nat.le_refl _) hb); (first | replace hM := Below.next hM (Nat.le_refl _) hb | replace hM := Below.next1 hM (Nat.le_refl _) hb | replace hM := Below.next2 hM (Nat.le_refl _) hb); have hN := Below.mid hb) | ((first | replace hB := Below.next hB (Nat.le_refl _) hb | replace hB := Below.next1 hB (Nat.le_refl _) hb | replace hB := Below.next2 hB (Nat.le_refl _) hb); (first | replace hM := Below.next hM (Nat.le_refl _) hb | replace hM := Below.next1 hM (Nat.le_refl _) hb | replace hM := Below.next2 hM (Nat.le_refl _) hb)) | ((first | replace hB := Below.next hB (Nat.le_refl _) hb | replace hB := Below.next1 hB (Nat.le_refl _) hb | replace hB := Below.next2 hB (Nat.le_refl _) hb); have hM := Below.mid hb) | (first | replace hB := Below.next hB (Nat.le_refl _) hb | replace hB := Below.next1 hB (Nat.le_refl _) hb | replace hB := Below.next2 hB (Nat.le_refl _) hb) | have hB := hb); obtain ⟨hc, hf, hz⟩ := after hB; (try (have hq := after hM; obtain ⟨hcM, hfM, hzM⟩ := hq)); (try (have hq := after hN; obtain ⟨hcN, hfN, hzN⟩ := hq)); have hs := hb.size; (try simp at hz); (try simp at hs))
  go_loopw [25] (fun x wr => ∃ i : Nat, i ≤ a.length ∧ x = .int .i64 i ∧ Below w.heap.size w wr ∧ (bs.take i).all okE = true) (fun x _ => a.length - (intOf x).toNat)
  case atStart => exact ⟨0, by omega, rfl, hB, by simp⟩
  case round =>
    obtain ⟨i, hi, rfl, hb1, hk⟩ := hrel
    rcases Nat.lt_or_ge i a.length with hlt | hge
    · obtain rfl := g1 (by omega)
      have hx := (after hb1).1
      obtain ⟨y, hy⟩ : ∃ y, bs[i]? = some y := ⟨_, List.getElem?_eq_getElem (by omega)⟩
      have d0 := g4 i y hy
      replace d0 := (hx _ _ (by simp [d0])).trans d0
      have hY := Lib.hid hy
      have hn : a.length - (i + 1) < a.length - i := by omega
      clear hy hx
      go_wp2_with (go_at_call 54; refine (rout_any _ _ (by omega) (by omega) _).mono ?_; rintro e w' ⟨rfl, rfl⟩)
      · have hw : okE y = false := by simp only [okE]; simp only [inB] at *; grind
        have hbad := all_bad hY.out hw
        refine bodyPost_ret (v := .tuple #[.slice none 0 0, .int .i64 0, .int .i64 2]) (by simp only [results, Try.results20]; go_simp) rfl ⟨_, by rw [hEa.out hbad], row_nil _, hb1⟩
      · have hw : okE y = true := by simp only [okE]; simp only [inB] at *; grind
        exact ⟨⟨i + 1, hlt, by simp, hb1, all_take_next hk hY.out hw⟩, by simpa [intOf] using hn⟩
    · have hall := all_take_end hk (by omega)
      have hd : detL a = 0 := by rcases hQ.out with h | h; · rw [hall] at h; cases h
                                 · exact h
      have hd' : (detL a == 0) = true := by simpa using hd
      have hA := Lib.hid hall
      have hdi : ¬i < a.length := by omega
      clear hall hk
      go_wp2_with (go_at_call 55; refine (rdet_any _ _ _ (h0.below hb1) hE.out).mono ?_; rintro e w2 ⟨rfl, hb2⟩; replace hb1 := Below.next hb1 (Nat.le_refl _) hb2)
      refine bodyPost_ret (v := .tuple #[.slice none 0 0, .int .i64 0, .int .i64 14]) (by simp only [results, Try.results20]; go_simp) rfl ⟨_, by rw [hEb.out hA.out], row_nil _, hb1⟩
theorem rsolve_any (v vb : Value) (a : Mat) (bs : List Int) (w : World) (h : MatV w v a) (hv : Row w vb bs) : Calls Try.prog 20 #[v, vb] w fun e w' => ∃ u, e = .returned (.tuple #[u, .int .i64 (solvD a bs), .int .i64 (solvE a bs)]) ∧ Row w' u (solvX a bs) ∧ Below w.heap.size w w' := by
  by_cases he : matE a = 0
  · by_cases hl : bs.length = a.length
    · by_cases hk : bs.all okE = true
      · by_cases hd : detL a = 0
        · have e1 : solvE a bs = 14 := by unfold solvE; rw [if_neg (fun h => h he), if_neg (fun h => h hl), if_pos hk, if_pos hd]
          have e2 : solvD a bs = 0 := by unfold solvD; rw [e1]; rfl
          have e3 : solvX a bs = [] := by unfold solvX; rw [e1]; rfl
          rw [e1, e2, e3]
          exact rsolve_e3 v vb a bs w h hv he hl (.inr hd) 14 (fun h => by rw [hk] at h; cases h) (fun _ => rfl)
        · have e1 : solvE a bs = 0 := by unfold solvE; rw [if_neg (fun h => h he), if_neg (fun h => h hl), if_pos hk, if_neg hd]
          have e2 : solvD a bs = detL a := by unfold solvD; rw [if_pos e1]
          have e3 : solvX a bs = solL a bs := by unfold solvX; rw [if_pos e1]
          rw [e1, e2, e3]
          exact rsolve_good v vb a bs w h hv he hl hk hd
      · have e1 : solvE a bs = 2 := by unfold solvE; rw [if_neg (fun h => h he), if_neg (fun h => h hl), if_neg hk]
        have e2 : solvD a bs = 0 := by unfold solvD; rw [e1]; rfl
        have e3 : solvX a bs = [] := by unfold solvX; rw [e1]; rfl
        rw [e1, e2, e3]
        exact rsolve_e3 v vb a bs w h hv he hl (.inl (by simpa using hk)) 2 (fun _ => rfl) (fun h => absurd h hk)
    · have e1 : solvE a bs = 1 := by unfold solvE; rw [if_neg (fun h => h he), if_pos hl]
      have e2 : solvD a bs = 0 := by unfold solvD; rw [e1]; rfl
      have e3 : solvX a bs = [] := by unfold solvX; rw [e1]; rfl
      rw [e1, e2, e3]
      exact rsolve_e2 v vb a bs w h hv he hl
  · have e1 : solvE a bs = matE a := by unfold solvE; rw [if_pos he]
    have e2 : solvD a bs = 0 := by unfold solvD; rw [e1, if_neg he]
    have e3 : solvX a bs = [] := by unfold solvX; rw [e1, if_neg he]
    rw [e1, e2, e3]
    exact rsolve_e1 v vb a w h he
end Go.Proofs.Ytcppgigndpepnaa
