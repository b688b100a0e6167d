/-
  Contract of flow.surplus.
  Conditions: none.
-/
import Derived.Test.YtajdfcliiefjgaaFlowMem
import Derived.Deep.OwnRows
namespace Go.Proofs.Ytajdfcliiefjgaa
open Go.RowKit
def surL (N : Nat) (es : List ED) (f : List Int) : List Int := (List.range N).map fun v : Nat => netOf (v : Int) es f
theorem surL_len (N : Nat) (es : List ED) (f : List Int) : (surL N es f).length = N := by simp [surL]
theorem surL_get {N : Nat} {es : List ED} {f : List Int} {v : Nat} (h : v < N) : (surL N es f)[v]? = some (netOf (v : Int) es f) := by
  unfold surL; rw [List.getElem?_map, List.getElem?_range h]; rfl
theorem net_take (v : Int) : ∀ {es : List ED} {f : List Int} {i : Nat} {e : ED} {x : Int}, es[i]? = some e → f[i]? = some x → netOf v (es.take (i + 1)) (f.take (i + 1)) = netOf v (es.take i) (f.take i) + (if e.1 = v then x else 0) - (if e.2.1 = v then x else 0)
  | [], _, _, _, _, h, _ => by simp at h
  | _ :: _, [], _, _, _, _, h => by simp at h
  | a :: es, y :: f, 0, e, x, h, k => by
    simp at h k
    subst h k
    simp [netOf]
  | a :: es, y :: f, i + 1, e, x, h, k => by
    have := net_take v (es := es) (f := f) (i := i) (e := e) (x := x) (by simpa using h) (by simpa using k)
    simp only [List.take_succ_cons, netOf]
    rw [this]
    omega
theorem net_bd (v : Int) {B : Int} (h0 : 0 ≤ B) : ∀ {es : List ED} {f : List Int}, okFl es f → (∀ e ∈ es, e.2.2 ≤ B) → -(B * es.length) ≤ netOf v es f ∧ netOf v es f ≤ B * es.length
  | [], [], _, _ => by simp [netOf]
  | [], _ :: _, h, _ => h.elim
  | _ :: _, [], h, _ => h.elim
  | e :: es, x :: f, h, hB => by
    have ih := net_bd v h0 (es := es) (f := f) h.2 (fun e he => hB e (List.mem_cons_of_mem _ he))
    have he := hB e (List.mem_cons_self ..)
    have hx := h.1
    simp only [netOf, List.length_cons]
    have e1 : B * ((es.length + 1 : Nat) : Int) = B * (es.length : Int) + B := by rw [Int.natCast_add, Int.mul_add]; simp
    rw [e1]
    split <;> split <;> omega
theorem okFl_take : ∀ {es : List ED} {f : List Int} (i : Nat), okFl es f → okFl (es.take i) (f.take i)
  | [], [], i, _ => by simp [okFl]
  | [], _ :: _, _, h => h.elim
  | _ :: _, [], _, h => h.elim
  | e :: es, x :: f, 0, _ => by simp [okFl]
  | e :: es, x :: f, i + 1, h => ⟨h.1, okFl_take i h.2⟩
/-- One edge more. -/
theorem surL_next {N : Nat} {es : List ED} {f : List Int} {i a b : Nat} {c x : Int} (he : es[i]? = some ((a : Int), (b : Int), c)) (hx : f[i]? = some x) (hab : a ≠ b) (ha : a < N) (hb : b < N) :
    ((surL N (es.take i) (f.take i)).set a (netOf (a : Int) (es.take i) (f.take i) + x)).set b (netOf (b : Int) (es.take i) (f.take i) - x) = surL N (es.take (i + 1)) (f.take (i + 1)) := by
  apply List.ext_getElem?
  intro v
  rcases Nat.lt_or_ge v N with hv | hv
  · rw [surL_get hv, net_take v he hx, List.getElem?_set, List.length_set, surL_len]
    by_cases hvb : b = v
    · subst hvb
      rw [if_pos rfl, if_pos hb, if_neg (by dsimp only; omega), if_pos rfl]
      congr 1; omega
    · rw [if_neg hvb, List.getElem?_set, surL_len]
      by_cases hva : a = v
      · subst hva
        rw [if_pos rfl, if_pos ha, if_pos rfl, if_neg (by dsimp only; omega)]
        congr 1; omega
      · rw [if_neg hva, surL_get hv, if_neg (by dsimp only; omega), if_neg (by dsimp only; omega)]
        congr 1; omega
  · rw [List.getElem?_eq_none (by simp [surL_len]; omega), List.getElem?_eq_none (by simp [surL_len]; omega)]
theorem surL_zero (N : Nat) (es : List ED) (f : List Int) : surL N (es.take 0) (f.take 0) = List.replicate N 0 := by
  apply List.ext_getElem?
  intro v
  rcases Nat.lt_or_ge v N with hv | hv
  · rw [surL_get hv, List.getElem?_replicate, if_pos hv]; simp [netOf]
  · rw [List.getElem?_eq_none (by simp [surL_len]; omega), List.getElem?_eq_none (by simp; omega)]
theorem made_zero (z : Value) (N : Nat) : madeCells #[z] N = Array.replicate N z := by
  apply Array.ext'
  rw [toList_madeCells_one, Array.toList_replicate]
set_option maxRecDepth 100000 in
set_option maxHeartbeats 8000000 in
theorem surplus_any (N : Nat) (s t : Int) (v u : Value) (es : List ED) (f : List Int) (w : World) (h : Eds w v es) (hu : Vec iV w u f) (hN : N ≤ 64) (hl : es.length ≤ 600) (hE : ∀ e ∈ es, okE N e) (hF : okFl es f) :
    Calls Try.prog 15 #[.agg #[.int .i64 (N : Int), .int .i64 s, .int .i64 t, v], u] w fun e w' => ∃ u', e = .returned u' ∧ Vec iV w' u' (surL N es f) ∧ Below w.heap.size w w' := by
  have hmk := run_make_row' (P := Try.prog) 28 2 (.int .i64 0) 8 Try.underlying28 (by kernel_rfl) rfl .i64 .i64 N (by omega) (by omega)
  rw [made_zero] at hmk
  have hFl := okFl_len hF
  obtain ⟨pa, b, o, cap, rfl, h1, h2, h3, h4⟩ := h
  obtain ⟨qa, qb, qo, qc, rfl, q1, q2, q3, q4⟩ := hu
  have hcap : cap ≤ 9223372036854775807 := by unfold maxLen at h3; omega
  have hFL := Lib.hid hFl
  have hEE := Lib.hid hE
  have hFF := Lib.hid hF
  clear hFl hE hF
  go_enter Try.func15, Try.ntmps15
  go_wp2_with fail
  go_loopw [14] (fun x wr => ∃ i : Nat, i ≤ es.length ∧ x = .int .i64 i ∧ Below w.heap.size w wr ∧ wr.heap[w.heap.size]? = some (.cells #[.int .i64 (N : Int), .int .i64 s, .int .i64 t, .slice pa es.length cap] 24) ∧ wr.heap[w.heap.size + 1]? = some (.cells ((surL N (es.take i) (f.take i)).map iV).toArray 2)) (fun x _ => es.length - (intOf x).toNat)
  case atStart =>
    refine ⟨0, by omega, rfl, (by repeat (first | with_reducible exact Below.refl _ _ | with_reducible assumption | with_reducible refine Below.drew ?_ | with_reducible refine Below.setCell ?_ (by first | omega | (simp; omega) | simp) _ | with_reducible refine Below.alloc ?_ (by first | omega | (simp; omega) | simp) _ | with_reducible refine Below.trans ?_ (Below.mono (by with_reducible assumption) (by first | omega | (simp; omega) | simp)))), heap_alloc (heap_new _ _ rfl), ?_⟩
    rw [surL_zero, ← made_vec]
    exact heap_new (w.alloc (.cells #[.int .i64 (N : Int), .int .i64 s, .int .i64 t, .slice pa es.length cap] 24)) (.cells (Array.replicate N (iV 0)) 2) (b := w.heap.size + 1) (by simp)
  case round =>
    obtain ⟨i, hi, rfl, hb0, hG, hO⟩ := hrel
    have hsz := hb0.size
    rcases Nat.lt_or_ge i es.length with hlt | hge
    · obtain rfl := h1 (by omega)
      have hif : i < f.length := by have := hFL.out; omega
      obtain rfl := q1 (by omega)
      obtain ⟨e, he⟩ : ∃ e, es[i]? = some e := ⟨_, List.getElem?_eq_getElem hlt⟩
      obtain ⟨x, hx, x0, x1⟩ := okFl_get hFF.out he
      obtain ⟨⟨y1, y2⟩, ⟨y3, y4⟩, y5, y6, y7⟩ := hEE.out e (List.mem_of_getElem? he)
      obtain ⟨c0, c1, c2⟩ := cB_at (cells_below (h4 i e he) hb0)
      have d0 : wr.cell? ⟨qb, qo + i, none⟩ = some (.int .i64 x) := (((after hb0).1 _ _ (by rw [q4 i x hx]; rfl)).trans (q4 i x hx))
      obtain ⟨e1, e2, e3⟩ := e
      obtain ⟨a, rfl⟩ := Int.eq_ofNat_of_zero_le y1
      obtain ⟨p, rfl⟩ := Int.eq_ofNat_of_zero_le y3
      dsimp only at c0 c1 c2 x1 y2 y4 y5 y6 y7
      have hbd := fun v : Int => net_bd v (B := 1073741824) (by omega) (okFl_take i hFF.out) (fun e he => (hEE.out e (List.mem_of_mem_take he)).2.2.2.2)
      have ha := hbd a
      have hp := hbd p
      have hln : (es.take i).length ≤ 600 := by rw [List.length_take]; omega
      have hna : a < N := by omega
      have hnp : p < N := by omega
      have hap : a ≠ p := by omega
      have hnext := surL_next he hx hap hna hnp
      have hga : (surL N (es.take i) (f.take i))[a]? = some (netOf (a : Int) (es.take i) (f.take i)) := surL_get hna
      have hgp : (surL N (es.take i) (f.take i))[p]? = some (netOf (p : Int) (es.take i) (f.take i)) := surL_get hnp
      have hSL := surL_len N (es.take i) (f.take i)
      generalize netOf (a : Int) (es.take i) (f.take i) = A at *
      generalize netOf (p : Int) (es.take i) (f.take i) = B at *
      generalize surL N (es.take i) (f.take i) = L at *
      have A1 : -644245094400 ≤ A ∧ A ≤ 644245094400 := by omega
      have B1 : -644245094400 ≤ B ∧ B ≤ 644245094400 := by omega
      have hnx : es.length - (i + 1) < es.length - i := by omega
      have A2 : -9223372036854775808 ≤ A + x := by omega
      have A3 : A + x ≤ 9223372036854775807 := by omega
      have B2 : -9223372036854775808 ≤ B - x := by omega
      have B3 : B - x ≤ 9223372036854775807 := by omega
      have a0 : wr.cell? ⟨w.heap.size + 1, a, none⟩ = some (.int .i64 A) := cell_vec hO hga
      have fa := frozen_heap (o := a) hO
      have hqw : w.cell? ⟨qb, qo + i, none⟩ = some (.int .i64 x) := q4 i x hx
      (have g0 := cell_heap (o := 0) hG rfl; have g1 := cell_heap (o := 1) hG rfl; have g2 := cell_heap (o := 2) hG rfl; have g3 := cell_heap (o := 3) hG rfl)
      clear hx he hga hbd ha hp y1 y3 y5 h4 q4
      go_wp2_with fail
      go_region
      have hX : (wr.alloc ((.cells #[.int .i64 (a : Int), .int .i64 (p : Int), .int .i64 e3] 37))).heap[wr.heap.size]? = some ((.cells #[.int .i64 (a : Int), .int .i64 (p : Int), .int .i64 e3] 37)) := heap_new wr ((.cells #[.int .i64 (a : Int), .int .i64 (p : Int), .int .i64 e3] 37)) rfl
      have hne : wr.heap.size ≠ w.heap.size + 1 := by have := (Array.getElem?_eq_some_iff.1 hO).1; omega
      have hO1 : ((World.drew (World.setCell (World.alloc wr ((.cells #[.int .i64 (a : Int), .int .i64 (p : Int), .int .i64 e3] 37))) ⟨w.heap.size + 1, a, none⟩ (.int .i64 (A + x))))).heap[w.heap.size + 1]? = some (.cells ((L.set a (A + x)).map iV).toArray 2) := heap_drew (heap_setV (f := iV) (a := a) (y := A + x) (heap_alloc (X := (.cells #[.int .i64 (a : Int), .int .i64 (p : Int), .int .i64 e3] 37)) hO))
      have hX1 : ((World.drew (World.setCell (World.alloc wr ((.cells #[.int .i64 (a : Int), .int .i64 (p : Int), .int .i64 e3] 37))) ⟨w.heap.size + 1, a, none⟩ (.int .i64 (A + x))))).heap[wr.heap.size]? = some ((.cells #[.int .i64 (a : Int), .int .i64 (p : Int), .int .i64 e3] 37)) := heap_drew (heap_set_other hX hne)
      have hG1 : ((World.drew (World.setCell (World.alloc wr ((.cells #[.int .i64 (a : Int), .int .i64 (p : Int), .int .i64 e3] 37))) ⟨w.heap.size + 1, a, none⟩ (.int .i64 (A + x))))).heap[w.heap.size]? = some ((.cells #[.int .i64 (N : Int), .int .i64 s, .int .i64 t, .slice (some ⟨b, o, none⟩) es.length cap] 24)) := heap_drew (heap_set_other (heap_alloc (X := (.cells #[.int .i64 (a : Int), .int .i64 (p : Int), .int .i64 e3] 37)) hG) (by omega))
      have hK1 : Below w.heap.size w ((World.drew (World.setCell (World.alloc wr ((.cells #[.int .i64 (a : Int), .int .i64 (p : Int), .int .i64 e3] 37))) ⟨w.heap.size + 1, a, none⟩ (.int .i64 (A + x))))) := Below.drew (Below.setCell (hb0.alloc hb0.size ((.cells #[.int .i64 (a : Int), .int .i64 (p : Int), .int .i64 e3] 37))) (Nat.le_succ _) _)
      have d1 := ((after hK1).1 _ _ (by rw [hqw]; rfl)).trans hqw
      generalize (World.drew (World.setCell (World.alloc wr ((.cells #[.int .i64 (a : Int), .int .i64 (p : Int), .int .i64 e3] 37))) ⟨w.heap.size + 1, a, none⟩ (.int .i64 (A + x)))) = W1 at *
      clear hX hO hG hb0 d0 c0 c1 c2 g0 g1 g2 g3 a0 fa
      have hgp1 : (L.set a (A + x))[p]? = some B := by rw [List.getElem?_set_ne hap]; exact hgp
      have x4 := cell_heap (o := 0) hX1 rfl
      have x5 := cell_heap (o := 1) hX1 rfl
      have x6 := cell_heap (o := 2) hX1 rfl
      have p0 : W1.cell? ⟨w.heap.size + 1, p, none⟩ = some (.int .i64 B) := cell_vec hO1 hgp1
      have fp := frozen_heap (o := p) hO1
      have hL1 : (L.set a (A + x)).length = N := by rw [List.length_set, hSL]
      clear hgp hgp1
      go_wp2_with fail
      go_region
      have hO2 : ((World.drew (World.setCell W1 ⟨w.heap.size + 1, p, none⟩ (.int .i64 (B - x))))).heap[w.heap.size + 1]? = some (.cells ((((L.set a (A + x)).set p (B - x))).map iV).toArray 2) := heap_drew (heap_setV (f := iV) (a := p) (y := B - x) hO1)
      have hG2 : ((World.drew (World.setCell W1 ⟨w.heap.size + 1, p, none⟩ (.int .i64 (B - x))))).heap[w.heap.size]? = some ((.cells #[.int .i64 (N : Int), .int .i64 s, .int .i64 t, .slice (some ⟨b, o, none⟩) es.length cap] 24)) := heap_drew (heap_set_other hG1 (by omega))
      have hK2 : Below w.heap.size w ((World.drew (World.setCell W1 ⟨w.heap.size + 1, p, none⟩ (.int .i64 (B - x))))) := Below.drew (Below.setCell hK1 (Nat.le_succ _) _)
      rw [hnext] at hO2
      generalize (World.drew (World.setCell W1 ⟨w.heap.size + 1, p, none⟩ (.int .i64 (B - x)))) = W2 at *
      go_wp2_with fail
      exact ⟨⟨i + 1, hlt, by simp, hK2, hG2, hO2⟩, by simpa [intOf] using hnx⟩
    · obtain rfl : i = es.length := by omega
      rw [List.take_length, List.take_of_length_le (by rw [hFL.out]; omega)] at hO
      (have g0 := cell_heap (o := 0) hG rfl; have g1 := cell_heap (o := 1) hG rfl; have g2 := cell_heap (o := 2) hG rfl; have g3 := cell_heap (o := 3) hG rfl)
      go_wp2_with fail
      go_ret
      exact ⟨_, rfl, vec_here hO (surL_len N es f) (by unfold maxLen; omega), hb0⟩
end Go.Proofs.Ytajdfcliiefjgaa
