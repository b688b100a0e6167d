/-
  The walk of the statement on flows and cuts.
  Conditions: none.
-/
import Derived.Test.YtajdfcliiefjgaaFlowMax
import Derived.Test.YtajdfcliiefjgaaFlowAwake
namespace Go.Proofs.Ytajdfcliiefjgaa
open Go.RowKit
set_option maxRecDepth 100000 in
set_option maxHeartbeats 4000000 in
theorem topcut_no (n s t : Int) (v : Value) (es : List ED) (k m : Int) (w : World) (h : Eds w v es) (hc : 100 < es.length ∨ 100 < n ∨ chkG n s t es ≠ 0) : Calls Try.prog 3 #[.agg #[.int .i64 n, .int .i64 s, .int .i64 t, v], .int .u8 k, .int .u8 m] w fun e w' => e = .returned (.bool true) ∧ Below w.heap.size w w' := by
  have hck := Lib.hid (fun w' (h : Eds w' v es) => gcheck_any n s t v es w' h)
  have hES := Lib.hid h
  obtain ⟨pa, b, o, cap, rfl, h1, h2, h3, h4⟩ := h
  generalize chkG n s t es = C at *
  by_cases c1 : 100 < es.length
  · clear hc
    go_enter Try.func3, Try.ntmps3
    go_wp2_with (go_at_call 4; refine (seasonAwake_any _).mono ?_; rintro e w1 ⟨rfl, hb1⟩; have hG := heap_old hb1 (heap_new w (.cells #[.int .i64 n, .int .i64 s, .int .i64 t, .slice pa es.length cap] 24) rfl); have hK := Below.next1 (Below.refl w.heap.size w) (Nat.le_refl _) hb1; clear hb1; (have g0 := cell_heap (o := 0) hG rfl; have g1 := cell_heap (o := 1) hG rfl; have g2 := cell_heap (o := 2) hG rfl; have g3 := cell_heap (o := 3) hG rfl))
    go_ret
    exact ⟨rfl, hK⟩
  · by_cases c2 : 100 < n
    · clear hc
      go_enter Try.func3, Try.ntmps3
      go_wp2_with (go_at_call 4; refine (seasonAwake_any _).mono ?_; rintro e w1 ⟨rfl, hb1⟩; have hG := heap_old hb1 (heap_new w (.cells #[.int .i64 n, .int .i64 s, .int .i64 t, .slice pa es.length cap] 24) rfl); have hK := Below.next1 (Below.refl w.heap.size w) (Nat.le_refl _) hb1; clear hb1; (have g0 := cell_heap (o := 0) hG rfl; have g1 := cell_heap (o := 1) hG rfl; have g2 := cell_heap (o := 2) hG rfl; have g3 := cell_heap (o := 3) hG rfl))
      go_ret
      exact ⟨rfl, hK⟩
    · have c3 : (C != 0) = true := by
        rcases hc with q | q | q
        · omega
        · omega
        · simpa using q
      clear hc
      go_enter Try.func3, Try.ntmps3
      go_wp2_with (first | (go_at_call 4; refine (seasonAwake_any _).mono ?_; rintro e w1 ⟨rfl, hb1⟩; have hG := heap_old hb1 (heap_new w (.cells #[.int .i64 n, .int .i64 s, .int .i64 t, .slice pa es.length cap] 24) rfl); have hK := Below.next1 (Below.refl w.heap.size w) (Nat.le_refl _) hb1; clear hb1; (have g0 := cell_heap (o := 0) hG rfl; have g1 := cell_heap (o := 1) hG rfl; have g2 := cell_heap (o := 2) hG rfl; have g3 := cell_heap (o := 3) hG rfl)) | (go_at_call 5; refine (hck.out _ (hES.out.below hK)).mono ?_; rintro e w2 ⟨rfl, hb2⟩; replace hG := heap_old hb2 hG; replace hK := Below.next hK (Nat.le_refl _) hb2; clear hb2; (clear g0 g1 g2 g3); (have g0 := cell_heap (o := 0) hG rfl; have g1 := cell_heap (o := 1) hG rfl; have g2 := cell_heap (o := 2) hG rfl; have g3 := cell_heap (o := 3) hG rfl)))
      go_ret
      exact ⟨rfl, hK⟩
theorem netOf_nil (v : Int) (f : List Int) : netOf v [] f = 0 := by simp [netOf]
theorem vec_cell {w : World} {rb ro rc n : Nat} {c : List Bool} {a : Nat} {x : Bool} (h : Vec bV w (.slice (some ⟨rb, ro, none⟩) n rc) c) (ha : c[a]? = some x) : w.cell? ⟨rb, ro + a, none⟩ = some (.bool x) := by
  obtain ⟨pa, b, o, cap, hv, h1, h2, h3, h4⟩ := h
  have := h1 (by have := (List.getElem?_eq_some_iff.1 ha).1; omega)
  subst this
  simp at hv
  obtain ⟨⟨rfl, rfl⟩, _⟩ := hv
  exact h4 a x ha
theorem cut_at {c : List Bool} {s : Nat} (h : cutF c (s : Int) = true) : c[s]? = some true := by
  unfold cutF at h
  rw [Int.toNat_natCast] at h
  cases hc : c[s]? with
  | none => rw [hc] at h; cases h
  | some x => rw [hc] at h; simp at h; rw [h]
theorem cut_no {c : List Bool} {t : Nat} (hl : t < c.length) (h : cutF c (t : Int) = false) : c[t]? = some false := by
  unfold cutF at h
  rw [Int.toNat_natCast, List.getElem?_eq_getElem hl] at h
  rw [List.getElem?_eq_getElem hl]
  simpa using h
set_option maxRecDepth 100000 in
set_option maxHeartbeats 8000000 in
theorem topcut_nil (N s t : Nat) (v : Value) (k m : Int) (w : World) (h : Eds w v []) (hG : okG N s t []) : Calls Try.prog 3 #[.agg #[.int .i64 (N : Int), .int .i64 (s : Int), .int .i64 (t : Int), v], .int .u8 k, .int .u8 m] w fun e w' => e = .returned (.bool true) ∧ Below w.heap.size w w' := by
  have hck := Lib.hid (fun w' (h : Eds w' v []) => by have := gcheck_any N s t v [] w' h; rwa [(chkG_iff N s t []).2 hG] at this)
  have hmx := Lib.hid (fun w' (h : Eds w' v []) => max_ok N s t v [] w' h hG)
  have hES := Lib.hid h
  have hGG := Lib.hid hG
  have hN64 : N ≤ 64 := by have := hG.1; omega
  have hsN : s < N := by have := hG.2.1.2; omega
  have htN : t < N := by have := hG.2.2.1.2; omega
  obtain ⟨pa, b, o, cap, rfl, h1, h2, h3, h4⟩ := h
  clear hG h1 h4
  go_enter Try.func3, Try.ntmps3
  go_wp2_with (first
    | (go_at_call 4; refine (seasonAwake_any _).mono ?_; rintro e w1 ⟨rfl, hb1⟩; have hG := heap_old hb1 (heap_new w (.cells #[.int .i64 (N : Int), .int .i64 (s : Int), .int .i64 (t : Int), .slice pa 0 cap] 24) rfl); have hK := Below.next1 (Below.refl w.heap.size w) (Nat.le_refl _) hb1; clear hb1; (have g0 := cell_heap (o := 0) hG rfl; have g1 := cell_heap (o := 1) hG rfl; have g2 := cell_heap (o := 2) hG rfl; have g3 := cell_heap (o := 3) hG rfl))
    | (go_at_call 5; refine (hck.out _ (hES.out.below hK)).mono ?_; rintro e w2 ⟨rfl, hb2⟩; replace hG := heap_old hb2 hG; replace hK := Below.next hK (Nat.le_refl _) hb2; clear hb2; (clear g0 g1 g2 g3); (have g0 := cell_heap (o := 0) hG rfl; have g1 := cell_heap (o := 1) hG rfl; have g2 := cell_heap (o := 2) hG rfl; have g3 := cell_heap (o := 3) hG rfl))
    | (go_at_call 6; refine (hmx.out _ (hES.out.below hK)).mono ?_; rintro e w3 ⟨u1, u2, f, c, rfl, hu1, hu2, hM, hb3⟩; replace hG := heap_old hb3 hG; replace hK := Below.next hK (Nat.le_refl _) hb3; have hMM := Lib.hid hM; have hVC := Lib.hid (flow_eq hM.flow (okG_in hGG.out) hGG.out.2.1.1 hGG.out.2.1.2 hM.cs hM.ct hM.shut); have hu2' := hu2; obtain ⟨ra, rb, ro, rc, hv, r1, r2, r3, r4⟩ := hu2'; rw [hM.clen] at hv r1 r2; subst hv; clear hb3 hM r1 r4; (clear g0 g1 g2 g3); (have g0 := cell_heap (o := 0) hG rfl; have g1 := cell_heap (o := 1) hG rfl; have g2 := cell_heap (o := 2) hG rfl; have g3 := cell_heap (o := 3) hG rfl))
    | (go_at_call 7; refine (value_ok N s t _ _ [] f _ (hES.out.below hK) hu1 hGG.out hMM.out.flow).mono ?_; rintro e w4 ⟨rfl, hb4⟩; have hz := netOf_nil (s : Int) f; replace hG := heap_old hb4 hG; replace hK := Below.next hK (Nat.le_refl _) hb4; replace hu2 := hu2.below hb4; (clear g0 g1 g2 g3); (have g0 := cell_heap (o := 0) hG rfl; have g1 := cell_heap (o := 1) hG rfl; have g2 := cell_heap (o := 2) hG rfl; have g3 := cell_heap (o := 3) hG rfl))
    | (go_at_call 8; refine (capacity_ok N s t _ _ [] c _ (hES.out.below hK) hu2 hGG.out hMM.out.clen (cut_at hMM.out.cs) (cut_no (by rw [hMM.out.clen]; omega) hMM.out.ct)).mono ?_; rintro e w5 ⟨rfl, hb5⟩; have hz2 : capOf (cutF c) [] = 0 := rfl; replace hG := heap_old hb5 hG; replace hK := Below.next hK (Nat.le_refl _) hb5; (clear g0 g1 g2 g3); (have g0 := cell_heap (o := 0) hG rfl; have g1 := cell_heap (o := 1) hG rfl; have g2 := cell_heap (o := 2) hG rfl; have g3 := cell_heap (o := 3) hG rfl)))
  go_ret
  exact ⟨rfl, hK⟩
theorem okG_set {N : Nat} {s t : Int} {es : List ED} {i : Nat} {x y c c' : Int} (h : okG N s t es) (he : es[i]? = some (x, y, c)) (h0 : 0 ≤ c') (h1 : c' ≤ 1073741824) : okG N s t (es.set i (x, y, c')) := by
  obtain ⟨a1, a2, a3, a4, a5, a6⟩ := h
  refine ⟨a1, a2, a3, a4, by rw [List.length_set]; exact a5, fun e hm => ?_⟩
  rcases List.mem_or_eq_of_mem_set hm with q | rfl
  · exact a6 e q
  · obtain ⟨b1, b2, b3, b4, b5⟩ := a6 _ (List.mem_of_getElem? he)
    exact ⟨b1, b2, b3, h0, h1⟩
theorem edge_set {es : List ED} {i : Nat} {e : ED} {x y c : Int} (he : es[i]? = some e) : (es.set i (x, y, c))[i]? = some (x, y, c) := List.getElem?_set_self (List.getElem?_eq_some_iff.1 he).1
theorem flat_inv {α : Type} {f : α → List Value} {n : Nat} (hn : ∀ x, (f x).length = n) : ∀ (l : List α) (j : Nat) (u : Value), (l.flatMap f)[j]? = some u → ∃ i x r, j = i * n + r ∧ l[i]? = some x ∧ (f x)[r]? = some u
  | [], j, u, h => by simp at h
  | d :: l, j, u, h => by
    rw [List.flatMap_cons] at h
    rcases Nat.lt_or_ge j (f d).length with q | q
    · rw [List.getElem?_append_left q] at h
      exact ⟨0, d, j, by omega, rfl, h⟩
    · rw [List.getElem?_append_right q] at h
      obtain ⟨i, x, r, h1, h2, h3⟩ := flat_inv hn l _ u h
      rw [hn] at q h1
      exact ⟨i + 1, x, r, by rw [Nat.add_mul, Nat.one_mul]; omega, by simpa using h2, h3⟩
theorem held_flat {w : World} {b o : Nat} {es : List ED} (h : ∀ i x, es[i]? = some x → ∀ j u, (cB x)[j]? = some u → w.cell? ⟨b, o + i * 3 + j, none⟩ = some u) : ∀ j u, (es.flatMap cB)[j]? = some u → w.cell? ⟨b, o + j, none⟩ = some u := by
  intro j u hj
  obtain ⟨i, x, r, rfl, h2, h3⟩ := flat_inv cB_len es j u hj
  rw [← Nat.add_assoc]
  exact h i x h2 r u h3
theorem flat_one (es : List ED) : ∀ u ∈ es.flatMap cB, u.oneCell' = true := by
  intro u hu
  obtain ⟨x, _, hx⟩ := List.mem_flatMap.1 hu
  exact cB_one x u hx
theorem own_edge {w : World} {B g cap i : Nat} {T : TypeId} {es : List ED} {e : ED} {n : Nat} (h : w.ownsRow B T 3 (.slice (some ⟨g, 0, none⟩) n cap) n (es.flatMap cB)) (he : es[i]? = some e) : w.cell? ⟨g, i * 3, none⟩ = some (.int .i64 e.1) ∧ w.cell? ⟨g, i * 3 + 1, none⟩ = some (.int .i64 e.2.1) ∧ w.cell? ⟨g, i * 3 + 2, none⟩ = some (.int .i64 e.2.2) ∧ w.frozen? ⟨g, i * 3 + 2, none⟩ = false := by
  have hn : es.length * 3 = n * 3 := by have := h.1; rw [flat_len cB_len] at this; exact this
  have hi := (List.getElem?_eq_some_iff.1 he).1
  have a0 := (World.ownsRow.cellAt h (i * 3 + 0) (by omega)).trans (flat_at cB_len es i e 0 _ he rfl)
  have a1 := (World.ownsRow.cellAt h (i * 3 + 1) (by omega)).trans (flat_at cB_len es i e 1 _ he rfl)
  have a2 := (World.ownsRow.cellAt h (i * 3 + 2) (by omega)).trans (flat_at cB_len es i e 2 _ he rfl)
  refine ⟨a0, a1, a2, ?_⟩
  rcases h.2 with ⟨h0, _⟩ | ⟨g', cap', cur, hv, h1, h2, _⟩
  · cases h0
  · obtain ⟨rfl, _⟩ : g = g' ∧ cap = cap' := by simpa using hv
    exact frozen_heap (o := i * 3 + 2) h2
theorem edges_set : ∀ {es : List ED} {i : Nat} {e : ED} (c : Int), es[i]? = some e → (es.flatMap cB).set (i * 3 + 2) (.int .i64 c) = (es.set i (e.1, e.2.1, c)).flatMap cB
  | [], _, _, _, h => by simp at h
  | a :: es, 0, e, c, h => by simp at h; subst h; simp [cB]
  | a :: es, i + 1, e, c, h => by
    have := edges_set (es := es) (i := i) c (by simpa using h)
    rw [show (i + 1) * 3 + 2 = (i * 3 + 2) + 1 + 1 + 1 by omega]
    simp only [List.flatMap_cons, cB, List.set_cons_succ, List.cons_append, List.nil_append]
    rw [← this]
theorem own_edge_set {w : World} {B g cap i : Nat} {T : TypeId} {es : List ED} {e : ED} {n : Nat} (h : w.ownsRow B T 3 (.slice (some ⟨g, 0, none⟩) n cap) n (es.flatMap cB)) (he : es[i]? = some e) (c : Int) : (w.setCell ⟨g, i * 3 + 2, none⟩ (.int .i64 c)).ownsRow B T 3 (.slice (some ⟨g, 0, none⟩) n cap) n ((es.set i (e.1, e.2.1, c)).flatMap cB) := by
  have hi := (List.getElem?_eq_some_iff.1 he).1
  obtain ⟨h1, h2⟩ := h
  rw [flat_len cB_len] at h1
  refine ⟨by rw [flat_len cB_len, List.length_set]; exact h1, ?_⟩
  rcases h2 with ⟨h0, _⟩ | ⟨g', cap', cur, hv, a1, a2, a3, a4, a5, a6⟩
  · cases h0
  · obtain ⟨rfl, rfl⟩ : g = g' ∧ cap = cap' := by simpa using hv
    refine .inr ⟨g, cap, cur.setIfInBounds (i * 3 + 2) (.int .i64 c), rfl, a1, heap_set a2, a3, a4, by simp; exact a5, ?_⟩
    rw [← edges_set c he, ← a6, Array.toList_setIfInBounds, List.take_set]
set_option maxRecDepth 100000 in
set_option maxHeartbeats 8000000 in
theorem topcut_goodA (N s t : Nat) (v : Value) (es : List ED) (k m : Nat) (w : World) (i a p : Nat) (e3 : Int) (h : Eds w v es) (hG : okG N s t es) (hpos : 0 < es.length) (hl100 : es.length ≤ 100) (hk : k ≤ 255) (hm : m ≤ 255)
    (hkm : (k : Int).tmod (es.length : Int) = (i : Int)) (he : es[i]? = some ((a : Int), (p : Int), e3)) (hyy : e3 + (m : Int) ≤ 1073741824) : Calls Try.prog 3 #[.agg #[.int .i64 (N : Int), .int .i64 (s : Int), .int .i64 (t : Int), v], .int .u8 (k : Int), .int .u8 (m : Int)] w fun e w' => e = .returned (.bool true) ∧ Below w.heap.size w w' := by
  obtain ⟨i0, hi0, hz0, hz1, hz2⟩ := info_parts (P := Try.prog) (e := 37) (z := .agg #[.int .i64 0, .int .i64 0, .int .i64 0]) (size := 3) (bytes := 24) (by kernel_rfl)
  have hck := Lib.hid (fun w' (h : Eds w' v es) => by have := gcheck_any N s t v es w' h; rwa [(chkG_iff N s t es).2 hG] at this)
  have hmx := Lib.hid (fun w' (h : Eds w' v es) => max_ok N s t v es w' h hG)
  have hES := Lib.hid h
  have hGG := Lib.hid hG
  have hN64 : N ≤ 64 := by have := hG.1; omega
  have hsN : s < N := by have := hG.2.1.2; omega
  have htN : t < N := by have := hG.2.2.1.2; omega
  have hil : i < es.length := (List.getElem?_eq_some_iff.1 he).1
  obtain ⟨⟨y1, y2⟩, ⟨y3, y4⟩, y5, y6, y7⟩ := hG.2.2.2.2.2 _ (List.mem_of_getElem? he)
  dsimp only at y1 y2 y3 y4 y5 y6 y7
  have haN : a < N := by omega
  have hpN : p < N := by omega
  have hG2 : okG N s t (es.set i ((a : Int), (p : Int), (e3 + (m : Int)))) := okG_set hG he (by omega) (by omega)
  have hmx2 := Lib.hid (fun v2 w' (h : Eds w' v2 (es.set i ((a : Int), (p : Int), (e3 + (m : Int))))) => max_ok N s t v2 _ w' h hG2)
  have hGG2 := Lib.hid hG2
  have hy0 : e3 ≤ (e3 + (m : Int)) := by omega
  have hl0 : (es.set i ((a : Int), (p : Int), (e3 + (m : Int)))).length = es.length := List.length_set
  have hLL := Lib.hid hl0
  obtain ⟨pa, b, o, cap, rfl, h1, h2, h3, h4⟩ := h
  obtain rfl := h1 hpos
  obtain ⟨c0, c1, c2⟩ := cB_at (h4 i _ he)
  dsimp only at c0 c1 c2
  have hcap : cap ≤ 9223372036854775807 := by unfold maxLen at h3; omega
  have hHE := Lib.hid he
  have hNW := Lib.hid (held_flat h4)
  have hne0 : ((es.length : Int) == 0) = false := by rw [beq_eq_false_iff_ne]; omega
  have hWC := Lib.hid c2
  clear hG h1 h4 he c0 c1 c2 hG2 hl0
  go_enter Try.func3, Try.ntmps3
  go_wp2_with (first
    | (go_at_call 4; refine (seasonAwake_any _).mono ?_; rintro e w1 ⟨rfl, hb1⟩; have hG := heap_old hb1 (heap_new w (.cells #[.int .i64 (N : Int), .int .i64 (s : Int), .int .i64 (t : Int), .slice (some ⟨b, o, none⟩) es.length cap] 24) rfl); have hK := Below.next1 (Below.refl w.heap.size w) (Nat.le_refl _) hb1; clear hb1; (have g0 := cell_heap (o := 0) hG rfl; have g1 := cell_heap (o := 1) hG rfl; have g2 := cell_heap (o := 2) hG rfl; have g3 := cell_heap (o := 3) hG rfl))
    | (go_at_call 5; refine (hck.out _ (hES.out.below hK)).mono ?_; rintro e w2 ⟨rfl, hb2⟩; replace hG := heap_old hb2 hG; replace hK := Below.next hK (Nat.le_refl _) hb2; clear hb2; (clear g0 g1 g2 g3); (have g0 := cell_heap (o := 0) hG rfl; have g1 := cell_heap (o := 1) hG rfl; have g2 := cell_heap (o := 2) hG rfl; have g3 := cell_heap (o := 3) hG rfl))
    | (go_at_call 6; refine (hmx.out _ (hES.out.below hK)).mono ?_; rintro e w3 ⟨u1, u2, f, c, rfl, hu1, hu2, hM, hb3⟩; replace hG := heap_old hb3 hG; replace hK := Below.next hK (Nat.le_refl _) hb3; have hMM := Lib.hid hM; have hVC := Lib.hid (flow_eq hM.flow (okG_in hGG.out) hGG.out.2.1.1 hGG.out.2.1.2 hM.cs hM.ct hM.shut); have hu2' := hu2; obtain ⟨ra, rb, ro, rc, hv, r1, r2, r3, r4⟩ := hu2'; rw [hM.clen] at hv r1 r2; subst hv; obtain rfl := r1 (by omega); have hR4 := Lib.hid r4; clear hb3 hM r1 r4; (clear g0 g1 g2 g3); (have g0 := cell_heap (o := 0) hG rfl; have g1 := cell_heap (o := 1) hG rfl; have g2 := cell_heap (o := 2) hG rfl; have g3 := cell_heap (o := 3) hG rfl))
    | (go_at_call 7; refine (value_ok N s t _ _ es f _ (hES.out.below hK) hu1 hGG.out hMM.out.flow).mono ?_; rintro e w4 ⟨rfl, hb4⟩; replace hG := heap_old hb4 hG; replace hK := Below.next hK (Nat.le_refl _) hb4; replace hu2 := hu2.below hb4; have hb34 := hb4; (clear g0 g1 g2 g3); (have g0 := cell_heap (o := 0) hG rfl; have g1 := cell_heap (o := 1) hG rfl; have g2 := cell_heap (o := 2) hG rfl; have g3 := cell_heap (o := 3) hG rfl))
    | (go_at_call 8; refine (capacity_ok N s t _ _ es c _ (hES.out.below hK) hu2 hGG.out hMM.out.clen (cut_at hMM.out.cs) (cut_no (by rw [hMM.out.clen]; omega) hMM.out.ct)).mono ?_; rintro e w5 ⟨rfl, hb5⟩; rw [← hVC.out]; replace hG := heap_old hb5 hG; replace hK := Below.next hK (Nat.le_refl _) hb5; have hb35 := Below.next hb34 (Nat.le_refl _) hb5; have hb35' := hb5; clear hb4 hb5; (clear g0 g1 g2 g3); (have g0 := cell_heap (o := 0) hG rfl; have g1 := cell_heap (o := 1) hG rfl; have g2 := cell_heap (o := 2) hG rfl; have g3 := cell_heap (o := 3) hG rfl))
    | (at_builtin; refine wpList_append_own _ rfl _ _ 22 rfl w5.heap.size 37 i0 (.agg #[.int .i64 0, .int .i64 0, .int .i64 0]) 3 24 Try.underlying22 hi0 hz0 hz1 hz2 rfl (by decide) _ _ _ rfl (World.ownsRow_made w5 #[] 0 (Nat.le_refl _) (by unfold maxLen; omega) rfl) ⟨b, o, none⟩ es.length cap (es.flatMap cB) rfl (flat_len cB_len es) ?_ (flat_one es) (by unfold maxLen; omega) (by omega) (by simp) ?_; rotate_left; intro v' w6 ho6 hg6 hnil6; have hg7 : (w5.alloc (.cells #[] 37)).grownBy w6 (some w5.heap.size) := hg6; have hs5 : w.heap.size ≤ w5.heap.size := hK.size; rw [Nat.zero_add, List.nil_append] at ho6; obtain ⟨ge, ce, rfl, hge, hgl⟩ := World.ownsRow.form2 ho6 hpos; have hb6 : Below w.heap.size w w6 := Below.grown (hK.alloc hK.size (.cells #[] 37)) hg7 (by simp; omega) (fun q hq => by have := Option.some.inj hq; omega); have hb56 : Below w5.heap.size w5 w6 := Below.grown (Below.alloc (Below.refl _ _) (Nat.le_refl _) (.cells #[] 37)) hg7 (by simp) (fun q hq => by have := Option.some.inj hq; omega); have hG6 := heap_old hb56 hG; obtain ⟨x0, x1, x2, xf⟩ := own_edge ho6 hHE.out; (clear g0 g1 g2 g3); have g0 := cell_heap (o := 0) hG6 rfl; have g1 := cell_heap (o := 1) hG6 rfl; have g2 := cell_heap (o := 2) hG6 rfl; have g3 := cell_heap (o := 3) hG6 rfl))
  · have hO7 := own_edge_set ho6 hHE.out (e3 + (m : Int))
    have hb7 : Below w.heap.size w (World.setCell w6 ⟨ge, i * 3 + 2, none⟩ (.int .i64 (e3 + (m : Int)))) := Below.setCell hb6 (Nat.le_trans hs5 hge) _
    have hb57 : Below w5.heap.size w5 (World.setCell w6 ⟨ge, i * 3 + 2, none⟩ (.int .i64 (e3 + (m : Int)))) := Below.setCell hb56 hge _
    have hG7 := heap_old hb57 hG
    clear x0 x1 x2 xf g0 g1 g2 g3 ho6 hb6 hb56 hG6 hg6 hg7 hnil6
    generalize World.setCell w6 ⟨ge, i * 3 + 2, none⟩ (.int .i64 (e3 + (m : Int))) = w7 at *
    obtain ⟨x0, x1, x2, xf⟩ := own_edge hO7 (edge_set hHE.out)
    have d2 := ((after hb7).1 _ _ (by rw [hWC.out]; rfl)).trans hWC.out
    have g0 := cell_heap (o := 0) hG7 rfl
    have g1 := cell_heap (o := 1) hG7 rfl
    have g2 := cell_heap (o := 2) hG7 rfl
    have g3 := cell_heap (o := 3) hG7 rfl
    have hE7 : Eds w7 (.slice (some ⟨ge, 0, none⟩) es.length ce) (es.set i ((a : Int), (p : Int), (e3 + (m : Int)))) := by
      have := held_own cB_len (show w7.ownsRow w5.heap.size 37 3 (.slice (some ⟨ge, 0, none⟩) es.length ce) (es.set i ((a : Int), (p : Int), (e3 + (m : Int)))).length _ from by rw [hLL.out]; exact hO7)
      exact this
    have hu27 := hu2.below (Below.next hb35' (Nat.le_refl _) hb57)
    obtain ⟨xa, hxa⟩ : ∃ x, c[a]? = some x := ⟨_, List.getElem?_eq_getElem (by rw [hMM.out.clen]; exact haN)⟩
    obtain ⟨xp, hxp⟩ : ∃ x, c[p]? = some x := ⟨_, List.getElem?_eq_getElem (by rw [hMM.out.clen]; exact hpN)⟩
    have k0 : w7.cell? ⟨rb, ro + a, none⟩ = some (.bool xa) := vec_cell hu27 hxa
    have k1 : w7.cell? ⟨rb, ro + p, none⟩ = some (.bool xp) := vec_cell hu27 hxp
    have hXA := Lib.hid (cutF_at hxa)
    have hXP := Lib.hid (cutF_at hxp)
    dsimp only at x0 x1 x2
    clear hxa hxp hu2 hb35 hb57 hO7
    go_region
    generalize hVV : netOf (s : Int) es f = V at *
    have hVH := Lib.hid hVV
    clear hVV
    have hvb : 0 ≤ V := by have := cap_bd (cutF c) (B := 1073741824) (by omega) (es := es) (fun e he => (hGG.out.2.2.2.2.2 e he).2.2.2); have := hVC.out; omega
    have z012 : (World.drew w7).cell? ⟨ge, i * 3, none⟩ = some (.int .i64 (a : Int)) ∧ (World.drew w7).cell? ⟨ge, i * 3 + 1, none⟩ = some (.int .i64 (p : Int)) ∧ (World.drew w7).cell? ⟨ge, i * 3 + 2, none⟩ = some (.int .i64 (e3 + (m : Int))) := ⟨x0, x1, x2⟩
    have z34 : (World.drew w7).cell? ⟨rb, ro + a, none⟩ = some (.bool xa) ∧ (World.drew w7).cell? ⟨rb, ro + p, none⟩ = some (.bool xp) := ⟨k0, k1⟩
    replace hb7 := Below.drew hb7
    have hE8 : Eds (World.drew w7) _ _ := hE7
    clear hE7
    replace hG7 := heap_drew hG7
    generalize World.drew w7 = w8 at *
    clear x0 x1 x2 xf d2 g0 g1 g2 g3 k0 k1
    obtain ⟨x0, x1, x2⟩ := z012
    obtain ⟨k0, k1⟩ := z34
    have g0 := cell_heap (o := 0) hG7 rfl
    have g1 := cell_heap (o := 1) hG7 rfl
    have g2 := cell_heap (o := 2) hG7 rfl
    have g3 := cell_heap (o := 3) hG7 rfl
    have hs8 := hb7.size
    go_wp2_with (first
      | (go_at_call 6; refine (hmx2.out _ _ (hE8.below (Below.alloc (Below.refl _ _) (Nat.le_refl _) _))).mono ?_; rintro e w9 ⟨u3, u4, f2, c2, rfl, hu3, hu4, hM2, hb9⟩; have hMM2 := Lib.hid hM2; have hbg := heap_old hb9 (heap_new w8 (.cells #[.int .i64 (N : Int), .int .i64 (s : Int), .int .i64 (t : Int), .slice (some ⟨ge, 0, none⟩) es.length ce] 24) rfl); have hK9 : Below w.heap.size w w9 := Below.next1 hb7 (Nat.le_refl _) hb9; have hK89 : Below w8.heap.size w8 w9 := Below.next1 (Below.refl _ _) (Nat.le_refl _) hb9; have hE9 := hE8.below hK89; replace x0 := ((after hK89).1 _ _ (by rw [x0]; rfl)).trans x0; replace x1 := ((after hK89).1 _ _ (by rw [x1]; rfl)).trans x1; replace k0 := ((after hK89).1 _ _ (by rw [k0]; rfl)).trans k0; replace k1 := ((after hK89).1 _ _ (by rw [k1]; rfl)).trans k1; have b0 := cell_heap (o := 0) hbg rfl; have b1 := cell_heap (o := 1) hbg rfl; have b2 := cell_heap (o := 2) hbg rfl; have b3 := cell_heap (o := 3) hbg rfl; have hcl := cut_law (okG_in hGG.out) hGG.out.2.1.1 hGG.out.2.1.2 hMM.out.flow hMM.out.cs hMM.out.ct hMM.out.shut hHE.out hy0 hM2.flow hM2.cs hM2.ct hM2.shut; rw [hVH.out] at hcl; generalize hVW : netOf (s : Int) (es.set i ((a : Int), (p : Int), (e3 + (m : Int)))) f2 = V2 at hcl; have hVV2 := Lib.hid hVW; obtain ⟨hc1, hc2, hc3⟩ := hcl; have hC3 := Lib.hid hc3; have hc20 := flow_top hGG2.out hM2.flow; rw [hVW] at hc20; clear hVW hc3 hM2 hb9)
      | (go_at_call 7; refine (value_ok N s t _ _ (es.set i ((a : Int), (p : Int), (e3 + (m : Int)))) f2 _ hE9 hu3 hGG2.out hMM2.out.flow).mono ?_; rintro e w10 ⟨rfl, hb10⟩; rw [hVV2.out]; have hK10 := Below.next hK9 (Nat.le_refl _) hb10; replace x0 := ((after hb10).1 _ _ (by rw [x0]; rfl)).trans x0; replace x1 := ((after hb10).1 _ _ (by rw [x1]; rfl)).trans x1; replace k0 := ((after hb10).1 _ _ (by rw [k0]; rfl)).trans k0; replace k1 := ((after hb10).1 _ _ (by rw [k1]; rfl)).trans k1))
    all_goals
      have h3 : V2 = V ∨ (xa = true ∧ xp = false) := by
        have q := hC3.out
        rw [hXA.out, hXP.out] at q
        rcases q with q | q
        · exact .inl q
        · exact .inr q
      go_ret
      refine ⟨ret_bool ?_, hK10⟩
      rcases h3 with h3 | ⟨h3, h4⟩
      · simp_all
      · subst h3 h4; simp_all
  · intro j u hj
    rw [Addr.add_lit]
    have q := hNW.out j u hj
    exact ((after (hK.alloc hK.size (.cells #[] 37))).1 _ _ (by rw [q]; rfl)).trans q
set_option maxRecDepth 100000 in
set_option maxHeartbeats 8000000 in
theorem topcut_goodB (N s t : Nat) (v : Value) (es : List ED) (k m : Nat) (w : World) (i a p : Nat) (e3 : Int) (h : Eds w v es) (hG : okG N s t es) (hpos : 0 < es.length) (hl100 : es.length ≤ 100) (hk : k ≤ 255) (hm : m ≤ 255)
    (hkm : (k : Int).tmod (es.length : Int) = (i : Int)) (he : es[i]? = some ((a : Int), (p : Int), e3)) (hyy : 1073741824 < e3 + (m : Int)) : Calls Try.prog 3 #[.agg #[.int .i64 (N : Int), .int .i64 (s : Int), .int .i64 (t : Int), v], .int .u8 (k : Int), .int .u8 (m : Int)] w fun e w' => e = .returned (.bool true) ∧ Below w.heap.size w w' := by
  obtain ⟨i0, hi0, hz0, hz1, hz2⟩ := info_parts (P := Try.prog) (e := 37) (z := .agg #[.int .i64 0, .int .i64 0, .int .i64 0]) (size := 3) (bytes := 24) (by kernel_rfl)
  have hck := Lib.hid (fun w' (h : Eds w' v es) => by have := gcheck_any N s t v es w' h; rwa [(chkG_iff N s t es).2 hG] at this)
  have hmx := Lib.hid (fun w' (h : Eds w' v es) => max_ok N s t v es w' h hG)
  have hES := Lib.hid h
  have hGG := Lib.hid hG
  have hN64 : N ≤ 64 := by have := hG.1; omega
  have hsN : s < N := by have := hG.2.1.2; omega
  have htN : t < N := by have := hG.2.2.1.2; omega
  have hil : i < es.length := (List.getElem?_eq_some_iff.1 he).1
  obtain ⟨⟨y1, y2⟩, ⟨y3, y4⟩, y5, y6, y7⟩ := hG.2.2.2.2.2 _ (List.mem_of_getElem? he)
  dsimp only at y1 y2 y3 y4 y5 y6 y7
  have haN : a < N := by omega
  have hpN : p < N := by omega
  have hG2 : okG N s t (es.set i ((a : Int), (p : Int), 1073741824)) := okG_set hG he (by omega) (by omega)
  have hmx2 := Lib.hid (fun v2 w' (h : Eds w' v2 (es.set i ((a : Int), (p : Int), 1073741824))) => max_ok N s t v2 _ w' h hG2)
  have hGG2 := Lib.hid hG2
  have hy0 : e3 ≤ 1073741824 := by omega
  have hl0 : (es.set i ((a : Int), (p : Int), 1073741824)).length = es.length := List.length_set
  have hLL := Lib.hid hl0
  obtain ⟨pa, b, o, cap, rfl, h1, h2, h3, h4⟩ := h
  obtain rfl := h1 hpos
  obtain ⟨c0, c1, c2⟩ := cB_at (h4 i _ he)
  dsimp only at c0 c1 c2
  have hcap : cap ≤ 9223372036854775807 := by unfold maxLen at h3; omega
  have hHE := Lib.hid he
  have hNW := Lib.hid (held_flat h4)
  have hne0 : ((es.length : Int) == 0) = false := by rw [beq_eq_false_iff_ne]; omega
  have hWC := Lib.hid c2
  clear hG h1 h4 he c0 c1 c2 hG2 hl0
  go_enter Try.func3, Try.ntmps3
  go_wp2_with (first
    | (go_at_call 4; refine (seasonAwake_any _).mono ?_; rintro e w1 ⟨rfl, hb1⟩; have hG := heap_old hb1 (heap_new w (.cells #[.int .i64 (N : Int), .int .i64 (s : Int), .int .i64 (t : Int), .slice (some ⟨b, o, none⟩) es.length cap] 24) rfl); have hK := Below.next1 (Below.refl w.heap.size w) (Nat.le_refl _) hb1; clear hb1; (have g0 := cell_heap (o := 0) hG rfl; have g1 := cell_heap (o := 1) hG rfl; have g2 := cell_heap (o := 2) hG rfl; have g3 := cell_heap (o := 3) hG rfl))
    | (go_at_call 5; refine (hck.out _ (hES.out.below hK)).mono ?_; rintro e w2 ⟨rfl, hb2⟩; replace hG := heap_old hb2 hG; replace hK := Below.next hK (Nat.le_refl _) hb2; clear hb2; (clear g0 g1 g2 g3); (have g0 := cell_heap (o := 0) hG rfl; have g1 := cell_heap (o := 1) hG rfl; have g2 := cell_heap (o := 2) hG rfl; have g3 := cell_heap (o := 3) hG rfl))
    | (go_at_call 6; refine (hmx.out _ (hES.out.below hK)).mono ?_; rintro e w3 ⟨u1, u2, f, c, rfl, hu1, hu2, hM, hb3⟩; replace hG := heap_old hb3 hG; replace hK := Below.next hK (Nat.le_refl _) hb3; have hMM := Lib.hid hM; have hVC := Lib.hid (flow_eq hM.flow (okG_in hGG.out) hGG.out.2.1.1 hGG.out.2.1.2 hM.cs hM.ct hM.shut); have hu2' := hu2; obtain ⟨ra, rb, ro, rc, hv, r1, r2, r3, r4⟩ := hu2'; rw [hM.clen] at hv r1 r2; subst hv; obtain rfl := r1 (by omega); have hR4 := Lib.hid r4; clear hb3 hM r1 r4; (clear g0 g1 g2 g3); (have g0 := cell_heap (o := 0) hG rfl; have g1 := cell_heap (o := 1) hG rfl; have g2 := cell_heap (o := 2) hG rfl; have g3 := cell_heap (o := 3) hG rfl))
    | (go_at_call 7; refine (value_ok N s t _ _ es f _ (hES.out.below hK) hu1 hGG.out hMM.out.flow).mono ?_; rintro e w4 ⟨rfl, hb4⟩; replace hG := heap_old hb4 hG; replace hK := Below.next hK (Nat.le_refl _) hb4; replace hu2 := hu2.below hb4; have hb34 := hb4; (clear g0 g1 g2 g3); (have g0 := cell_heap (o := 0) hG rfl; have g1 := cell_heap (o := 1) hG rfl; have g2 := cell_heap (o := 2) hG rfl; have g3 := cell_heap (o := 3) hG rfl))
    | (go_at_call 8; refine (capacity_ok N s t _ _ es c _ (hES.out.below hK) hu2 hGG.out hMM.out.clen (cut_at hMM.out.cs) (cut_no (by rw [hMM.out.clen]; omega) hMM.out.ct)).mono ?_; rintro e w5 ⟨rfl, hb5⟩; rw [← hVC.out]; replace hG := heap_old hb5 hG; replace hK := Below.next hK (Nat.le_refl _) hb5; have hb35 := Below.next hb34 (Nat.le_refl _) hb5; have hb35' := hb5; clear hb4 hb5; (clear g0 g1 g2 g3); (have g0 := cell_heap (o := 0) hG rfl; have g1 := cell_heap (o := 1) hG rfl; have g2 := cell_heap (o := 2) hG rfl; have g3 := cell_heap (o := 3) hG rfl))
    | (at_builtin; refine wpList_append_own _ rfl _ _ 22 rfl w5.heap.size 37 i0 (.agg #[.int .i64 0, .int .i64 0, .int .i64 0]) 3 24 Try.underlying22 hi0 hz0 hz1 hz2 rfl (by decide) _ _ _ rfl (World.ownsRow_made w5 #[] 0 (Nat.le_refl _) (by unfold maxLen; omega) rfl) ⟨b, o, none⟩ es.length cap (es.flatMap cB) rfl (flat_len cB_len es) ?_ (flat_one es) (by unfold maxLen; omega) (by omega) (by simp) ?_; rotate_left; intro v' w6 ho6 hg6 hnil6; have hg7 : (w5.alloc (.cells #[] 37)).grownBy w6 (some w5.heap.size) := hg6; have hs5 : w.heap.size ≤ w5.heap.size := hK.size; rw [Nat.zero_add, List.nil_append] at ho6; obtain ⟨ge, ce, rfl, hge, hgl⟩ := World.ownsRow.form2 ho6 hpos; have hb6 : Below w.heap.size w w6 := Below.grown (hK.alloc hK.size (.cells #[] 37)) hg7 (by simp; omega) (fun q hq => by have := Option.some.inj hq; omega); have hb56 : Below w5.heap.size w5 w6 := Below.grown (Below.alloc (Below.refl _ _) (Nat.le_refl _) (.cells #[] 37)) hg7 (by simp) (fun q hq => by have := Option.some.inj hq; omega); have hG6 := heap_old hb56 hG; obtain ⟨x0, x1, x2, xf⟩ := own_edge ho6 hHE.out; (clear g0 g1 g2 g3); have g0 := cell_heap (o := 0) hG6 rfl; have g1 := cell_heap (o := 1) hG6 rfl; have g2 := cell_heap (o := 2) hG6 rfl; have g3 := cell_heap (o := 3) hG6 rfl))
  · have hO7 := own_edge_set ho6 hHE.out 1073741824
    have hb7 : Below w.heap.size w (World.setCell w6 ⟨ge, i * 3 + 2, none⟩ (.int .i64 1073741824)) := Below.setCell hb6 (Nat.le_trans hs5 hge) _
    have hb57 : Below w5.heap.size w5 (World.setCell w6 ⟨ge, i * 3 + 2, none⟩ (.int .i64 1073741824)) := Below.setCell hb56 hge _
    have hG7 := heap_old hb57 hG
    clear x0 x1 x2 xf g0 g1 g2 g3 ho6 hb6 hb56 hG6 hg6 hg7 hnil6
    generalize World.setCell w6 ⟨ge, i * 3 + 2, none⟩ (.int .i64 1073741824) = w7 at *
    obtain ⟨x0, x1, x2, xf⟩ := own_edge hO7 (edge_set hHE.out)
    have d2 := ((after hb7).1 _ _ (by rw [hWC.out]; rfl)).trans hWC.out
    have g0 := cell_heap (o := 0) hG7 rfl
    have g1 := cell_heap (o := 1) hG7 rfl
    have g2 := cell_heap (o := 2) hG7 rfl
    have g3 := cell_heap (o := 3) hG7 rfl
    have hE7 : Eds w7 (.slice (some ⟨ge, 0, none⟩) es.length ce) (es.set i ((a : Int), (p : Int), 1073741824)) := by
      have := held_own cB_len (show w7.ownsRow w5.heap.size 37 3 (.slice (some ⟨ge, 0, none⟩) es.length ce) (es.set i ((a : Int), (p : Int), 1073741824)).length _ from by rw [hLL.out]; exact hO7)
      exact this
    have hu27 := hu2.below (Below.next hb35' (Nat.le_refl _) hb57)
    obtain ⟨xa, hxa⟩ : ∃ x, c[a]? = some x := ⟨_, List.getElem?_eq_getElem (by rw [hMM.out.clen]; exact haN)⟩
    obtain ⟨xp, hxp⟩ : ∃ x, c[p]? = some x := ⟨_, List.getElem?_eq_getElem (by rw [hMM.out.clen]; exact hpN)⟩
    have k0 : w7.cell? ⟨rb, ro + a, none⟩ = some (.bool xa) := vec_cell hu27 hxa
    have k1 : w7.cell? ⟨rb, ro + p, none⟩ = some (.bool xp) := vec_cell hu27 hxp
    have hXA := Lib.hid (cutF_at hxa)
    have hXP := Lib.hid (cutF_at hxp)
    dsimp only at x0 x1 x2
    clear hxa hxp hu2 hb35 hb57 hO7
    go_region
    generalize hVV : netOf (s : Int) es f = V at *
    have hVH := Lib.hid hVV
    clear hVV
    have hvb : 0 ≤ V := by have := cap_bd (cutF c) (B := 1073741824) (by omega) (es := es) (fun e he => (hGG.out.2.2.2.2.2 e he).2.2.2); have := hVC.out; omega
    have z012 : (World.drew w7).cell? ⟨ge, i * 3, none⟩ = some (.int .i64 (a : Int)) ∧ (World.drew w7).cell? ⟨ge, i * 3 + 1, none⟩ = some (.int .i64 (p : Int)) ∧ (World.drew w7).cell? ⟨ge, i * 3 + 2, none⟩ = some (.int .i64 1073741824) := ⟨x0, x1, x2⟩
    have z34 : (World.drew w7).cell? ⟨rb, ro + a, none⟩ = some (.bool xa) ∧ (World.drew w7).cell? ⟨rb, ro + p, none⟩ = some (.bool xp) := ⟨k0, k1⟩
    replace hb7 := Below.drew hb7
    have hE8 : Eds (World.drew w7) _ _ := hE7
    clear hE7
    replace hG7 := heap_drew hG7
    generalize World.drew w7 = w8 at *
    clear x0 x1 x2 xf d2 g0 g1 g2 g3 k0 k1
    obtain ⟨x0, x1, x2⟩ := z012
    obtain ⟨k0, k1⟩ := z34
    have g0 := cell_heap (o := 0) hG7 rfl
    have g1 := cell_heap (o := 1) hG7 rfl
    have g2 := cell_heap (o := 2) hG7 rfl
    have g3 := cell_heap (o := 3) hG7 rfl
    have hs8 := hb7.size
    go_wp2_with (first
      | (go_at_call 6; refine (hmx2.out _ _ (hE8.below (Below.alloc (Below.refl _ _) (Nat.le_refl _) _))).mono ?_; rintro e w9 ⟨u3, u4, f2, c2, rfl, hu3, hu4, hM2, hb9⟩; have hMM2 := Lib.hid hM2; have hbg := heap_old hb9 (heap_new w8 (.cells #[.int .i64 (N : Int), .int .i64 (s : Int), .int .i64 (t : Int), .slice (some ⟨ge, 0, none⟩) es.length ce] 24) rfl); have hK9 : Below w.heap.size w w9 := Below.next1 hb7 (Nat.le_refl _) hb9; have hK89 : Below w8.heap.size w8 w9 := Below.next1 (Below.refl _ _) (Nat.le_refl _) hb9; have hE9 := hE8.below hK89; replace x0 := ((after hK89).1 _ _ (by rw [x0]; rfl)).trans x0; replace x1 := ((after hK89).1 _ _ (by rw [x1]; rfl)).trans x1; replace k0 := ((after hK89).1 _ _ (by rw [k0]; rfl)).trans k0; replace k1 := ((after hK89).1 _ _ (by rw [k1]; rfl)).trans k1; have b0 := cell_heap (o := 0) hbg rfl; have b1 := cell_heap (o := 1) hbg rfl; have b2 := cell_heap (o := 2) hbg rfl; have b3 := cell_heap (o := 3) hbg rfl; have hcl := cut_law (okG_in hGG.out) hGG.out.2.1.1 hGG.out.2.1.2 hMM.out.flow hMM.out.cs hMM.out.ct hMM.out.shut hHE.out hy0 hM2.flow hM2.cs hM2.ct hM2.shut; rw [hVH.out] at hcl; generalize hVW : netOf (s : Int) (es.set i ((a : Int), (p : Int), 1073741824)) f2 = V2 at hcl; have hVV2 := Lib.hid hVW; obtain ⟨hc1, hc2, hc3⟩ := hcl; have hC3 := Lib.hid hc3; have hc20 := flow_top hGG2.out hM2.flow; rw [hVW] at hc20; clear hVW hc3 hM2 hb9)
      | (go_at_call 7; refine (value_ok N s t _ _ (es.set i ((a : Int), (p : Int), 1073741824)) f2 _ hE9 hu3 hGG2.out hMM2.out.flow).mono ?_; rintro e w10 ⟨rfl, hb10⟩; rw [hVV2.out]; have hK10 := Below.next hK9 (Nat.le_refl _) hb10; replace x0 := ((after hb10).1 _ _ (by rw [x0]; rfl)).trans x0; replace x1 := ((after hb10).1 _ _ (by rw [x1]; rfl)).trans x1; replace k0 := ((after hb10).1 _ _ (by rw [k0]; rfl)).trans k0; replace k1 := ((after hb10).1 _ _ (by rw [k1]; rfl)).trans k1))
    all_goals
      have h3 : V2 = V ∨ (xa = true ∧ xp = false) := by
        have q := hC3.out
        rw [hXA.out, hXP.out] at q
        rcases q with q | q
        · exact .inl q
        · exact .inr q
      go_ret
      refine ⟨ret_bool ?_, hK10⟩
      rcases h3 with h3 | ⟨h3, h4⟩
      · simp_all
      · subst h3 h4; simp_all
  · intro j u hj
    rw [Addr.add_lit]
    have q := hNW.out j u hj
    exact ((after (hK.alloc hK.size (.cells #[] 37))).1 _ _ (by rw [q]; rfl)).trans q
theorem topCut_walk (n s t : Int) (v : Value) (es : List ED) (k m : Int) (w : World) (h : Eds w v es) (k0 : 0 ≤ k) (k1 : k ≤ 255) (m0 : 0 ≤ m) (m1 : m ≤ 255) : Calls Try.prog 3 #[.agg #[.int .i64 n, .int .i64 s, .int .i64 t, v], .int .u8 k, .int .u8 m] w fun e w' => e = .returned (.bool true) ∧ Below w.heap.size w w' := by
  by_cases hc : 100 < es.length ∨ 100 < n ∨ chkG n s t es ≠ 0
  · exact topcut_no n s t v es k m w h hc
  · have hg : okG n s t es := (chkG_iff n s t es).1 (by omega)
    obtain ⟨N, rfl⟩ := Int.eq_ofNat_of_zero_le (show 0 ≤ n by have := hg.1; omega)
    obtain ⟨s, rfl⟩ := Int.eq_ofNat_of_zero_le hg.2.1.1
    obtain ⟨t, rfl⟩ := Int.eq_ofNat_of_zero_le hg.2.2.1.1
    obtain ⟨k, rfl⟩ := Int.eq_ofNat_of_zero_le k0
    obtain ⟨m, rfl⟩ := Int.eq_ofNat_of_zero_le m0
    rcases Nat.eq_zero_or_pos es.length with h0 | hpos
    · obtain rfl := List.length_eq_zero_iff.1 h0
      exact topcut_nil N s t v _ _ w h hg
    · have hi : k % es.length < es.length := Nat.mod_lt _ hpos
      have hkm : (k : Int).tmod (es.length : Int) = ((k % es.length : Nat) : Int) := by rw [Int.tmod_eq_emod_of_nonneg (by omega)]; rfl
      obtain ⟨⟨e1, e2, e3⟩, he⟩ : ∃ e, es[k % es.length]? = some e := ⟨_, List.getElem?_eq_getElem hi⟩
      obtain ⟨⟨y1, _⟩, ⟨y3, _⟩, _⟩ := hg.2.2.2.2.2 _ (List.mem_of_getElem? he)
      dsimp only at y1 y3
      obtain ⟨a, rfl⟩ := Int.eq_ofNat_of_zero_le y1
      obtain ⟨p, rfl⟩ := Int.eq_ofNat_of_zero_le y3
      rcases Int.lt_or_le 1073741824 (e3 + (m : Int)) with q | q
      · exact topcut_goodB N s t v es k m w _ a p e3 h hg hpos (by omega) (by omega) (by omega) hkm he q
      · exact topcut_goodA N s t v es k m w _ a p e3 h hg hpos (by omega) (by omega) (by omega) hkm he q
end Go.Proofs.Ytajdfcliiefjgaa
