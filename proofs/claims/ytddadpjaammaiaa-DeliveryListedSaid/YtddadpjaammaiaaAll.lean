/-
  Contract of All: the slice holds the list of all plain deliveries.
  Conditions: none.
-/
import Derived.Test.YtddadpjaammaiaaAllList
import Derived.OwnWalk
namespace Go.Proofs.Ytddadpjaammaiaa
open Go.RowKit
theorem own_below {w1 w2 : World} {base : Nat} {e : TypeId} {size : Nat} {v : Value} {n : Nat} {xs : List Value} (h : w1.ownsRow base e size v n xs) (hb : Below w1.heap.size w1 w2) : w2.ownsRow base e size v n xs := by
  obtain ⟨h1, h2⟩ := h
  refine ⟨h1, ?_⟩
  rcases h2 with h | ⟨g, cap, cur, a, b, c, d⟩
  · exact .inl h
  · exact .inr ⟨g, cap, cur, a, b, heap_old hb c, d⟩
def cellsD (d : PD) : List Value := [.int .u8 d.1, .int .u8 d.2.1, .int .i64 d.2.2.1, .int .i64 0, .int .i64 d.2.2.2, .bool false, .int .u8 0, .int .i64 0, .int .i64 0, .int .i64 0, .bool false, .int .i64 0]
theorem cellsD_len (L : List PD) : (L.flatMap cellsD).length = L.length * 12 := by
  induction L with
  | nil => rfl
  | cons d L ih => simp only [List.flatMap_cons, List.length_append, ih, List.length_cons]; simp [cellsD]; omega
/-- The world holds the list of deliveries in the slice v, made since w. -/
def Held (w wr : World) (v : Value) (L : List PD) : Prop := wr.ownsRow w.heap.size 26 12 v L.length (L.flatMap cellsD) ∧ Below w.heap.size w wr
theorem Held.nil (w : World) : Held w w (.slice none 0 0) [] := ⟨World.ownsRow_nil _ _ _ _, Below.refl _ _⟩
theorem Held.below {w wr w2 : World} {v : Value} {L : List PD} (h : Held w wr v L) (hb : Below wr.heap.size wr w2) : Held w w2 v L := ⟨own_below h.1 hb, h.2.trans (hb.mono h.2.size)⟩
def zeroD : Value := .agg #[.int .u8 0, .int .u8 0, .int .i64 0, .int .i64 0, .int .i64 0, .bool false, .int .u8 0, .int .i64 0, .int .i64 0, .int .i64 0, .bool false, .int .i64 0]
def most (r : Int) : Nat := (if 7 < r then 8 else r + 1).toNat
def ballJ (t s n : Int) : Nat → List PD
  | 0 => []
  | 1 => pick t s n 0
  | 2 => pick t s n 0 ++ pick t s n 4
  | _ => ballL t s n
theorem cell_heap {W : World} {b o : Nat} {c : Array Value} {t : TypeId} {fr : Nat × Nat} {v : Value} (h : W.heap[b]? = some (.cells c t fr)) (hv : c[o]? = some v) : W.cell? ⟨b, o, none⟩ = some v := by
  simp [World.cell?, h, hv]
theorem ballJ_bd (t s n : Int) (j : Nat) : (ballJ t s n j).length ≤ 3 := by
  have := pick_bd t s n 0; have := pick_bd t s n 4; have := ballL_bd t s n
  unfold ballJ
  split <;> (try simp only [List.length_append, List.length_nil]) <;> omega
theorem cells_new (w : World) (cs : List Value) (t : TypeId) : ∀ j u, cs[j]? = some u → (w.alloc (.cells cs.toArray t)).cell? ((⟨w.heap.size, 0, none⟩ : Addr).add j) = some u := by
  intro j u h
  have e : (⟨w.heap.size, 0, none⟩ : Addr).add j = ⟨w.heap.size, j, none⟩ := by rw [Addr.add_lit]; simp
  rw [e]
  exact cell_heap (heap_new _ _ rfl) (by simpa using h)
theorem own_ne {W : World} {base : Nat} {e t : TypeId} {size : Nat} {v : Value} {n b : Nat} {xs : List Value} {c : Array Value} {fr : Nat × Nat} (h : W.ownsRow base e size v n xs) (hb : W.heap[b]? = some (.cells c t fr)) (hne : t ≠ e) : some b ≠ v.ownBlock := by
  rcases h.2 with ⟨rfl, _⟩ | ⟨g, cap, cur, rfl, _, hg, _⟩
  · simp [Value.ownBlock]
  · intro he
    simp only [Value.ownBlock, Option.some.injEq] at he
    subst he
    rw [hb] at hg
    simp only [Option.some.injEq, Obj.cells.injEq] at hg
    exact hne hg.2.1
theorem pick_yes {t s n b : Int} (h : (legalV t s n 0 b false 0 0 == 0) = true) : pick t s n b = [(t, s, n, b)] := by unfold pick okD; rw [if_pos h]
theorem pick_none {t s n b : Int} (h : (legalV t s n 0 b false 0 0 == 0) = false) : pick t s n b = [] := by unfold pick okD; rw [if_neg (by simpa using h)]
theorem Held.push {w w3 : World} {v : Value} {L : List PD} {d : PD} (h : w3.ownsRow w.heap.size 26 12 v (L.length + 1) (L.flatMap cellsD ++ cellsD d)) (hb : Below w.heap.size w w3) : Held w w3 v (L ++ [d]) := by
  refine ⟨?_, hb⟩
  simpa [List.flatMap_append] using h
theorem most_bd (r : Int) : most r ≤ 8 := by unfold most; split <;> omega

set_option maxHeartbeats 8000000 in
theorem all_any (r : Int) (hr1 : -9223372036854775808 ≤ r) (hr2 : r ≤ 9223372036854775807) (w : World) : Calls Try.prog 14 #[.int .i64 r] w fun e w' => ∃ v, e = .returned v ∧ Held w w' v (allL (most r)) := by
  obtain ⟨i0, hi, hz0, hz1, hz2⟩ := info_parts (P := Try.prog) (e := 26) (z := zeroD) (size := 12) (bytes := 80) (by kernel_rfl)
  have hm := most_bd r
  obtain ⟨M, hM, hq1⟩ : ∃ M : Int, (if (7 : Int) < r then (7 : Int) else r) = M ∧ ∀ q : Nat, ((q : Int) ≤ M ↔ q < most r) := ⟨_, rfl, fun q => by unfold most; split <;> omega⟩
  generalize most r = m at *
  go_enter Try.func14, Try.ntmps14
  go_wp2_with fail
  go_loopw [3, 4] (fun v t wr => ∃ k : Nat, k ≤ 3 ∧ t = .int .u8 ((k : Int) + 1) ∧ Held w wr v (tyL m k)) (fun _ t _ => 4 - (intOf t).toNat)
  case atStart => exact ⟨0, by omega, rfl, Held.nil _⟩
  case round =>
    obtain ⟨k, hk, rfl, hH⟩ := hrel
    go_wp2_with fail
    · have g1 : (k : Int) + 1 ≤ 3 := by omega
      simp only [g1, decide_true]
      go_loopw [3, 5] (fun v s wr => ∃ l : Nat, l ≤ 4 ∧ s = .int .u8 l ∧ Held w wr v (tyL m k ++ srcL ((k : Int) + 1) m l)) (fun _ s _ => 5 - (intOf s).toNat)
      case atStart => exact ⟨0, by omega, rfl, by simpa [srcL] using hH⟩
      case round =>
        obtain ⟨l, hl, rfl, hH2⟩ := hrel
        go_wp2_with fail
        · have g2 : (l : Int) ≤ 3 := by omega
          simp only [g2, decide_true]
          go_loopw [3, 6] (fun v n wr => ∃ q : Nat, q ≤ m ∧ n = .int .i64 q ∧ Held w wr v (tyL m k ++ srcL ((k : Int) + 1) m l ++ runsL ((k : Int) + 1) l q)) (fun _ n _ => 9 - (intOf n).toNat)
          case atStart => exact ⟨0, by omega, rfl, by simpa [runsL] using hH2⟩
          case round =>
            obtain ⟨q, hq, rfl, hH3⟩ := hrel
            go_wp2_with fail
            · have hPl : (tyL m k ++ srcL ((k : Int) + 1) m l ++ runsL ((k : Int) + 1) l q).length ≤ 500 := by
                have h1 := tyL_bd m k
                have h2 := srcL_bd ((k : Int) + 1) m l
                have h3 := runsL_bd ((k : Int) + 1) l q
                have h4 : 12 * m * k ≤ 12 * 8 * 3 := Nat.mul_le_mul (by omega) hk
                have h5 : 3 * m * l ≤ 3 * 8 * 4 := Nat.mul_le_mul (by omega) hl
                simp only [List.length_append]
                omega
              generalize hP : tyL m k ++ srcL ((k : Int) + 1) m l ++ runsL ((k : Int) + 1) l q = P at hH3 hPl
              have g3 : q < m := by have := hq1 q; omega
              simp only [g3, decide_true]
              go_loopw [3, 26] (fun v x wx => ∃ j : Nat, j ≤ 3 ∧ x = .int .i64 j ∧ Held w wx v (P ++ ballJ ((k : Int) + 1) l q j) ∧ wx.heap[wr.heap.size]? = some (.cells #[.int .i64 0, .int .i64 4, .int .i64 6] 3 (0, 0))) (fun _ x _ => 4 - (intOf x).toNat)
              case atStart => exact ⟨0, by omega, rfl, by simpa [ballJ] using hH3.below (Below.alloc (Below.refl _ _) (by omega) _), heap_new _ _ rfl⟩
              case round =>
                obtain ⟨j, hj, rfl, hH4, hb⟩ := hrel
                have c0 := cell_heap (o := 0) hb rfl
                have c1 := cell_heap (o := 1) hb rfl
                have c2 := cell_heap (o := 2) hb rfl
                obtain rfl | rfl | rfl | rfl : j = 0 ∨ j = 1 ∨ j = 2 ∨ j = 3 := by omega
                · have hlen : (P ++ ballJ ((k : Int) + 1) l q 0).length ≤ 503 := by have := ballJ_bd ((k : Int) + 1) l q 0; rw [List.length_append]; omega
                  go_wp2_with (first
                    | (at_builtin; refine wpList_append_own _ rfl _ _ 32 rfl w.heap.size 26 i0 zeroD 12 80 Try.underlying32 hi hz0 hz1 hz2 rfl (by decide) _ _ _ rfl (hH5.1.alloc _) ⟨w2.heap.size, 0, none⟩ 1 1 (cellsD (((k : Int) + 1), (l : Int), (q : Int), 0)) rfl rfl (cells_new _ _ _) (fun x hx => by simp [cellsD] at hx; rcases hx with rfl | rfl | rfl | rfl | rfl | rfl | rfl | rfl | rfl | rfl | rfl | rfl <;> rfl) (by unfold maxLen; omega) (by omega) (by have := hH5.2.size; simp; omega) ?_; intro v' w3 hown' hgrow3 hnil3)
                    | (go_at_call 10; refine (legal_any _ _ _ _ _ _ _ _ _ _ _ _ _).mono ?_; rintro e w2 ⟨rfl, hbL⟩; have hd := heap_old hbL (heap_new _ _ rfl); have hH5 := (hH4.below (Below.alloc (Below.refl _ _) (by omega) _)).below hbL; have hb2 := heap_old hbL (heap_alloc hb);
                       have d0 := cell_heap (o := 0) hd rfl; have d1 := cell_heap (o := 1) hd rfl; have d2 := cell_heap (o := 2) hd rfl; have d3 := cell_heap (o := 3) hd rfl; have d4 := cell_heap (o := 4) hd rfl; have d5 := cell_heap (o := 5) hd rfl; have d6 := cell_heap (o := 6) hd rfl; have d7 := cell_heap (o := 7) hd rfl; have d8 := cell_heap (o := 8) hd rfl; have d9 := cell_heap (o := 9) hd rfl; have d10 := cell_heap (o := 10) hd rfl; have d11 := cell_heap (o := 11) hd rfl))
                  · have hk1 := pick_yes (t := (k : Int) + 1) (s := l) (n := q) (b := 0) (by assumption)
                    refine ⟨⟨1, by omega, ?_, ?_, ?_⟩, by simp [intOf]⟩
                    · first | rfl | simp
                    · have e : P ++ ballJ ((k : Int) + 1) l q 1 = (P ++ ballJ ((k : Int) + 1) l q 0) ++ [((k : Int) + 1, (l : Int), (q : Int), 0)] := by simp [ballJ, hk1]
                      rw [e]
                      exact Held.push hown' ((hH5.2.alloc hH5.2.size _).grown hgrow3 (by have := hH5.2.size; simp; omega) (fun q hq => (hH5.1.lt q hq).1))
                    · exact (hgrow3.block _ (Array.getElem?_eq_some_iff.1 (heap_alloc hb2)).1 (own_ne hH5.1 hb2 (by decide))).trans (heap_alloc hb2)
                  · have hk1 := pick_none (t := (k : Int) + 1) (s := l) (n := q) (b := 0) (by assumption)
                    refine ⟨⟨1, by omega, ?_, ?_, hb2⟩, by simp [intOf]⟩
                    · first | rfl | simp
                    · have e : P ++ ballJ ((k : Int) + 1) l q 1 = P ++ ballJ ((k : Int) + 1) l q 0 := by simp [ballJ, hk1]
                      rw [e]
                      exact hH5
                · have hlen : (P ++ ballJ ((k : Int) + 1) l q 1).length ≤ 503 := by have := ballJ_bd ((k : Int) + 1) l q 1; rw [List.length_append]; omega
                  go_wp2_with (first
                    | (at_builtin; refine wpList_append_own _ rfl _ _ 32 rfl w.heap.size 26 i0 zeroD 12 80 Try.underlying32 hi hz0 hz1 hz2 rfl (by decide) _ _ _ rfl (hH5.1.alloc _) ⟨w2.heap.size, 0, none⟩ 1 1 (cellsD (((k : Int) + 1), (l : Int), (q : Int), 4)) rfl rfl (cells_new _ _ _) (fun x hx => by simp [cellsD] at hx; rcases hx with rfl | rfl | rfl | rfl | rfl | rfl | rfl | rfl | rfl | rfl | rfl | rfl <;> rfl) (by unfold maxLen; omega) (by omega) (by have := hH5.2.size; simp; omega) ?_; intro v' w3 hown' hgrow3 hnil3)
                    | (go_at_call 10; refine (legal_any _ _ _ _ _ _ _ _ _ _ _ _ _).mono ?_; rintro e w2 ⟨rfl, hbL⟩; have hd := heap_old hbL (heap_new _ _ rfl); have hH5 := (hH4.below (Below.alloc (Below.refl _ _) (by omega) _)).below hbL; have hb2 := heap_old hbL (heap_alloc hb);
                       have d0 := cell_heap (o := 0) hd rfl; have d1 := cell_heap (o := 1) hd rfl; have d2 := cell_heap (o := 2) hd rfl; have d3 := cell_heap (o := 3) hd rfl; have d4 := cell_heap (o := 4) hd rfl; have d5 := cell_heap (o := 5) hd rfl; have d6 := cell_heap (o := 6) hd rfl; have d7 := cell_heap (o := 7) hd rfl; have d8 := cell_heap (o := 8) hd rfl; have d9 := cell_heap (o := 9) hd rfl; have d10 := cell_heap (o := 10) hd rfl; have d11 := cell_heap (o := 11) hd rfl))
                  · have hk1 := pick_yes (t := (k : Int) + 1) (s := l) (n := q) (b := 4) (by assumption)
                    refine ⟨⟨2, by omega, ?_, ?_, ?_⟩, by simp [intOf]⟩
                    · first | rfl | simp
                    · have e : P ++ ballJ ((k : Int) + 1) l q 2 = (P ++ ballJ ((k : Int) + 1) l q 1) ++ [((k : Int) + 1, (l : Int), (q : Int), 4)] := by simp [ballJ, hk1]
                      rw [e]
                      exact Held.push hown' ((hH5.2.alloc hH5.2.size _).grown hgrow3 (by have := hH5.2.size; simp; omega) (fun q hq => (hH5.1.lt q hq).1))
                    · exact (hgrow3.block _ (Array.getElem?_eq_some_iff.1 (heap_alloc hb2)).1 (own_ne hH5.1 hb2 (by decide))).trans (heap_alloc hb2)
                  · have hk1 := pick_none (t := (k : Int) + 1) (s := l) (n := q) (b := 4) (by assumption)
                    refine ⟨⟨2, by omega, ?_, ?_, hb2⟩, by simp [intOf]⟩
                    · first | rfl | simp
                    · have e : P ++ ballJ ((k : Int) + 1) l q 2 = P ++ ballJ ((k : Int) + 1) l q 1 := by simp [ballJ, hk1]
                      rw [e]
                      exact hH5
                · have hlen : (P ++ ballJ ((k : Int) + 1) l q 2).length ≤ 503 := by have := ballJ_bd ((k : Int) + 1) l q 2; rw [List.length_append]; omega
                  go_wp2_with (first
                    | (at_builtin; refine wpList_append_own _ rfl _ _ 32 rfl w.heap.size 26 i0 zeroD 12 80 Try.underlying32 hi hz0 hz1 hz2 rfl (by decide) _ _ _ rfl (hH5.1.alloc _) ⟨w2.heap.size, 0, none⟩ 1 1 (cellsD (((k : Int) + 1), (l : Int), (q : Int), 6)) rfl rfl (cells_new _ _ _) (fun x hx => by simp [cellsD] at hx; rcases hx with rfl | rfl | rfl | rfl | rfl | rfl | rfl | rfl | rfl | rfl | rfl | rfl <;> rfl) (by unfold maxLen; omega) (by omega) (by have := hH5.2.size; simp; omega) ?_; intro v' w3 hown' hgrow3 hnil3)
                    | (go_at_call 10; refine (legal_any _ _ _ _ _ _ _ _ _ _ _ _ _).mono ?_; rintro e w2 ⟨rfl, hbL⟩; have hd := heap_old hbL (heap_new _ _ rfl); have hH5 := (hH4.below (Below.alloc (Below.refl _ _) (by omega) _)).below hbL; have hb2 := heap_old hbL (heap_alloc hb);
                       have d0 := cell_heap (o := 0) hd rfl; have d1 := cell_heap (o := 1) hd rfl; have d2 := cell_heap (o := 2) hd rfl; have d3 := cell_heap (o := 3) hd rfl; have d4 := cell_heap (o := 4) hd rfl; have d5 := cell_heap (o := 5) hd rfl; have d6 := cell_heap (o := 6) hd rfl; have d7 := cell_heap (o := 7) hd rfl; have d8 := cell_heap (o := 8) hd rfl; have d9 := cell_heap (o := 9) hd rfl; have d10 := cell_heap (o := 10) hd rfl; have d11 := cell_heap (o := 11) hd rfl))
                  · have hk1 := pick_yes (t := (k : Int) + 1) (s := l) (n := q) (b := 6) (by assumption)
                    refine ⟨⟨3, by omega, ?_, ?_, ?_⟩, by simp [intOf]⟩
                    · first | rfl | simp
                    · have e : P ++ ballJ ((k : Int) + 1) l q 3 = (P ++ ballJ ((k : Int) + 1) l q 2) ++ [((k : Int) + 1, (l : Int), (q : Int), 6)] := by simp [ballJ, ballL, hk1]
                      rw [e]
                      exact Held.push hown' ((hH5.2.alloc hH5.2.size _).grown hgrow3 (by have := hH5.2.size; simp; omega) (fun q hq => (hH5.1.lt q hq).1))
                    · exact (hgrow3.block _ (Array.getElem?_eq_some_iff.1 (heap_alloc hb2)).1 (own_ne hH5.1 hb2 (by decide))).trans (heap_alloc hb2)
                  · have hk1 := pick_none (t := (k : Int) + 1) (s := l) (n := q) (b := 6) (by assumption)
                    refine ⟨⟨3, by omega, ?_, ?_, hb2⟩, by simp [intOf]⟩
                    · first | rfl | simp
                    · have e : P ++ ballJ ((k : Int) + 1) l q 3 = P ++ ballJ ((k : Int) + 1) l q 2 := by simp [ballJ, ballL, hk1]
                      rw [e]
                      exact hH5
                · go_wp2_with fail
                  refine ⟨⟨q + 1, by omega, by simp, ?_⟩, by simp [intOf]; omega⟩
                  simpa [runsL, ballJ, ← hP, List.append_assoc] using hH4
            · have : q = m := by have := hq1 q; omega
              subst this
              exact ⟨⟨l + 1, by omega, by simp, by simpa [srcL, List.append_assoc] using hH3⟩, by simp [intOf]; omega⟩
        · have : l = 4 := by omega
          subst this
          exact ⟨⟨k + 1, by omega, by simp, by simpa [tyL] using hH2⟩, by simp [intOf]; omega⟩
    · have : k = 3 := by omega
      subst this
      go_ret
      exact ⟨_, rfl, hH⟩
end Go.Proofs.Ytddadpjaammaiaa
