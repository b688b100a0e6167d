/-
  The walk of the statement on what is listed.
  Conditions: none.
-/
import Derived.Test.YtddadpjaammaiaaDelLaws
namespace Go.Proofs.Ytddadpjaammaiaa
open Go.RowKit
theorem frozen_heap {W : World} {b o : Nat} {c : Array Value} {t : TypeId} (h : W.heap[b]? = some (.cells c t (0, 0))) : W.frozen? ⟨b, o, none⟩ = false := by
  simp [World.frozen?, h]
set_option maxRecDepth 100000 in
set_option maxHeartbeats 8000000 in
theorem deliveryListed_walk (ty so ru sh bo : Int) (cr : Bool) (ho vi fi se : Int) (su : Bool) (sc : Int) (n : Int) (hso : 0 ≤ so) (hn0 : 0 ≤ n) (hn1 : n ≤ 255) (w : World) : Calls Try.prog 5 #[.agg #[.int .u8 ty, .int .u8 so, .int .i64 ru, .int .i64 sh, .int .i64 bo, .bool cr, .int .u8 ho, .int .i64 vi, .int .i64 fi, .int .i64 se, .bool su, .int .i64 sc], .int .u8 n] w fun e w' => e = .returned (.bool true) ∧ Below w.heap.size w w' := by
  have hlen : (allL (most (n % 10))).length ≤ 1000 := by have h1 := tyL_bd (most (n % 10)) 3; have h2 := most_bd (n % 10); unfold allL; omega
  generalize hLL : allL (most (n % 10)) = L at hlen
  go_enter Try.func5, Try.ntmps5
  go_wp2_with (first
    | (go_at_call 9; refine (awake_any _).mono ?_; rintro e w1 ⟨rfl, hb1⟩; have hs1 := hb1.size; simp at hs1; have hK : Below w.heap.size w w1 := Below.next1 (Below.refl _ _) (Nat.le_refl _) hb1; have hd := heap_old hb1 (heap_new _ _ rfl); have d0 := cell_heap (o := 0) hd rfl; have d1 := cell_heap (o := 1) hd rfl; have d2 := cell_heap (o := 2) hd rfl; have d3 := cell_heap (o := 3) hd rfl; have d4 := cell_heap (o := 4) hd rfl; have d5 := cell_heap (o := 5) hd rfl; have d6 := cell_heap (o := 6) hd rfl; have d7 := cell_heap (o := 7) hd rfl; have d8 := cell_heap (o := 8) hd rfl; have d9 := cell_heap (o := 9) hd rfl; have d10 := cell_heap (o := 10) hd rfl; have d11 := cell_heap (o := 11) hd rfl; have f0 := frozen_heap (o := 0) hd; have f1 := frozen_heap (o := 1) hd; have f2 := frozen_heap (o := 2) hd; have f3 := frozen_heap (o := 3) hd; have f4 := frozen_heap (o := 4) hd; have f5 := frozen_heap (o := 5) hd; have f6 := frozen_heap (o := 6) hd; have f7 := frozen_heap (o := 7) hd; have f8 := frozen_heap (o := 8) hd; have f9 := frozen_heap (o := 9) hd; have f10 := frozen_heap (o := 10) hd; have f11 := frozen_heap (o := 11) hd)
    | (go_at_call 14; refine (all_dels _ (by omega) (by omega) _).mono ?_; rintro e w2 ⟨va, rfl, ha, hb2⟩; rw [hLL] at ha; obtain ⟨pa, ga, ca, rfl, h1, h2⟩ := ha; have hD := heap_old hb2 (heap_set (heap_set (heap_set (heap_set (heap_set (heap_set (heap_set (heap_set (heap_set (heap_set (heap_set (heap_set hd)))))))))))); have hK2 : Below w.heap.size w w2 := Below.trans (by repeat (first | with_reducible assumption | refine Below.setCell ?_ (by first | omega | (simp; done) | (simp; omega)) _)) (hb2.mono (by first | (simp; done) | (simp; omega)))))
  simp only [List.setIfInBounds_toArray, List.set_cons_succ, List.set_cons_zero] at hD
  clear d0 d1 d2 d3 d4 d5 d6 d7 d8 d9 d10 d11 f0 f1 f2 f3 f4 f5 f6 f7 f8 f9 f10 f11 hd hb2 hK hb1 hs1
  go_loopw [6, 27] (fun y x wr => ∃ i : Nat, i ≤ L.length ∧ x = .int .i64 i ∧ y = .int .i64 ((L.take i).count (ty, so, ru, bo) : Nat) ∧ Below w2.heap.size w2 wr) (fun _ x _ => L.length - (intOf x).toNat)
  case atStart => exact ⟨0, by omega, rfl, rfl, Below.refl _ _⟩
  case round =>
    obtain ⟨i, hi, rfl, rfl, hb0⟩ := hrel
    have hE := heap_old hb0 hD
    have e0 := cell_heap (o := 0) hE rfl
    have e1 := cell_heap (o := 1) hE rfl
    have e2 := cell_heap (o := 2) hE rfl
    have e3 := cell_heap (o := 3) hE rfl
    have e4 := cell_heap (o := 4) hE rfl
    have e5 := cell_heap (o := 5) hE rfl
    have e6 := cell_heap (o := 6) hE rfl
    have e7 := cell_heap (o := 7) hE rfl
    have e8 := cell_heap (o := 8) hE rfl
    have e9 := cell_heap (o := 9) hE rfl
    have e10 := cell_heap (o := 10) hE rfl
    have e11 := cell_heap (o := 11) hE rfl
    have hcb : (L.take i).count (ty, so, ru, bo) ≤ L.length := Nat.le_trans List.count_le_length (by rw [List.length_take]; omega)
    rcases Nat.lt_or_ge i L.length with hlt | hge
    · obtain rfl := h1 (by omega)
      obtain ⟨x, hx⟩ : ∃ x, L[i]? = some x := ⟨_, List.getElem?_eq_getElem hlt⟩
      have c0 := dat h2 hb0 hx 0 rfl
      have c1 := dat h2 hb0 hx 1 rfl
      have c2 := dat h2 hb0 hx 2 rfl
      have c3 := dat h2 hb0 hx 3 rfl
      have c4 := dat h2 hb0 hx 4 rfl
      have c5 := dat h2 hb0 hx 5 rfl
      have c6 := dat h2 hb0 hx 6 rfl
      have c7 := dat h2 hb0 hx 7 rfl
      have c8 := dat h2 hb0 hx 8 rfl
      have c9 := dat h2 hb0 hx 9 rfl
      have c10 := dat h2 hb0 hx 10 rfl
      have c11 := dat h2 hb0 hx 11 rfl
      rw [Nat.add_zero] at c0
      have hn : L.length - (i + 1) < L.length - i := by omega
      have hT : (L.take (i + 1)).count (ty, so, ru, bo) = (L.take i).count (ty, so, ru, bo) + if x = (ty, so, ru, bo) then 1 else 0 := by
        rw [List.take_add_one, hx, List.count_append]; simp [List.count_cons]
      have hTT := Lib.hid hT
      clear hx hT h2
      generalize (L.take i).count (ty, so, ru, bo) = k at *
      obtain ⟨x0, x1, x2, x3⟩ := x
      simp only at c0 c1 c2 c4
      go_wp2_with fail
      · exact ⟨⟨i + 1, hlt, by simp, by rw [hTT.out, if_pos (by grind)]; simp, hb0.alloc hb0.size _⟩, by simpa [intOf] using hn⟩
      all_goals
        refine ⟨⟨i + 1, hlt, by simp, ?_, hb0.alloc hb0.size _⟩, by simpa [intOf] using hn⟩
        rw [hTT.out, if_neg (by grind)]
        rfl
    · obtain rfl : i = L.length := by omega
      rw [List.take_length] at hcb ⊢
      have hC : L.count (ty, so, ru, bo) = if legalV ty so ru 0 bo false 0 0 = 0 ∧ ru < (most (n % 10) : Int) then 1 else 0 := by
        rw [← hLL, count_all (most (n % 10)) (ty, so, ru, bo) hso]; simp [okD]
      have hK := Below.next hK2 (Nat.le_refl _) hb0
      generalize L.count (ty, so, ru, bo) = k at *
      generalize hlv : legalV ty so ru 0 bo false 0 0 = lv at *
      have hLV := Lib.hid hlv
      have hCC := Lib.hid hC
      have hR := Lib.hid (show lv = 0 → ru ≤ 7 from fun h => by rw [← hlv] at h; exact (okD_bo (t := ty) (s := so) (n := ru) (b := bo) (by simpa [okD] using h)).2.2.1.2)
      have hM := Lib.hid (show (most (n % 10) : Int) = if 7 < n % 10 then 8 else n % 10 + 1 by unfold most; split <;> omega)
      clear hlv hC h1 h2
      go_wp2_with (go_at_call 10; refine (legal_any _ _ _ _ _ _ _ _ _ _ _ _ _).mono ?_; rintro e w' ⟨rfl, hb⟩; rw [hLV.out]; replace hK := Below.next hK (Nat.le_refl _) hb; have hE := heap_old hb hE; have e2 := cell_heap (o := 2) hE rfl)
      all_goals
        go_ret
        refine ⟨ret_bool ?_, hK⟩
        have h3 := hCC.out
        have h4 := hR.out
        have h5 := hM.out
        rw [beq_iff_eq]
        grind
end Go.Proofs.Ytddadpjaammaiaa
