/-
  Contracts of flow.room, Feasible, Value, Capacity.
  Conditions: none.
-/
import Derived.Test.YtajdfcliiefjgaaFlowCheck
import Derived.Test.YtajdfcliiefjgaaFlowSur
import Derived.Deep.RegionWith
namespace Go.Proofs.Ytajdfcliiefjgaa
open Go.RowKit
set_option maxRecDepth 100000 in
set_option maxHeartbeats 4000000 in
theorem room_any (N : Nat) (s t : Int) (v u : Value) (es : List ED) (f : List Int) (a : AR) (w : World) (h : Eds w v es) (hu : Vec iV w u f) (ha : a.1 < es.length) (hE : ∀ e ∈ es, okE N e) (hF : okFl es f) :
    Calls Try.prog 13 #[.agg #[.int .i64 (N : Int), .int .i64 s, .int .i64 t, v], u, .agg #[.int .i64 (a.1 : Int), .bool a.2]] w fun e w' => e = .returned (.int .i64 (roomA es f a)) ∧ Below w.heap.size w w' := by
  have hFl := okFl_len hF
  obtain ⟨e, he⟩ : ∃ e, es[a.1]? = some e := ⟨_, List.getElem?_eq_getElem ha⟩
  obtain ⟨x, hx, x0, x1⟩ := okFl_get hF he
  have y := (hE e (List.mem_of_getElem? he)).2.2.2.2
  have hR : roomA es f a = if a.2 then x else e.2.2 - x := by unfold roomA; rw [edAt_some he, flAt_some hx]
  rw [hR]
  obtain ⟨pa, b, o, cap, rfl, h1, h2, h3, h4⟩ := h
  obtain ⟨qa, qb, qo, qc, rfl, q1, q2, q3, q4⟩ := hu
  have hcap : cap ≤ 9223372036854775807 := by unfold maxLen at h3; omega
  obtain rfl := h1 (by omega)
  obtain rfl := q1 (by omega)
  obtain ⟨c0, c1, c2⟩ := cB_at (h4 a.1 e he)
  have d0 : w.cell? ⟨qb, qo + a.1, none⟩ = some (.int .i64 x) := q4 a.1 x hx
  have hif : a.1 < f.length := by omega
  obtain ⟨i, back⟩ := a
  dsimp only at *
  clear hx he h4 q4 hE hF hFl hR h1 q1
  cases back
  · go_enter Try.func13, Try.ntmps13
    go_wp2_with fail
    go_region
    all_goals
      go_wp2_with fail
      go_ret
      exact ⟨rfl, (by repeat (first | with_reducible exact Below.refl _ _ | with_reducible assumption | with_reducible refine Below.drew ?_ | with_reducible refine Below.setCell ?_ (by first | omega | (simp; omega) | simp) _ | with_reducible refine Below.alloc ?_ (by first | omega | (simp; omega) | simp) _ | with_reducible refine Below.trans ?_ (Below.mono (by with_reducible assumption) (by first | omega | (simp; omega) | simp))))⟩
  · go_enter Try.func13, Try.ntmps13
    go_wp2_with fail
    go_ret
    exact ⟨rfl, (by repeat (first | with_reducible exact Below.refl _ _ | with_reducible assumption | with_reducible refine Below.drew ?_ | with_reducible refine Below.setCell ?_ (by first | omega | (simp; omega) | simp) _ | with_reducible refine Below.alloc ?_ (by first | omega | (simp; omega) | simp) _ | with_reducible refine Below.trans ?_ (Below.mono (by with_reducible assumption) (by first | omega | (simp; omega) | simp))))⟩
set_option maxRecDepth 100000 in
set_option maxHeartbeats 8000000 in
theorem feasible_ok (N : Nat) (s t : Int) (v u : Value) (es : List ED) (f : List Int) (w : World) (h : Eds w v es) (hu : Vec iV w u f) (hG : okG N s t es) (hF : flowP N s t es f) :
    Calls Try.prog 14 #[.agg #[.int .i64 (N : Int), .int .i64 s, .int .i64 t, v], u] w fun e w' => e = .returned (.int .i64 0) ∧ Below w.heap.size w w' := by
  have hck := Lib.hid (fun w' (h : Eds w' v es) => by have := gcheck_any N s t v es w' h; rwa [(chkG_iff N s t es).2 hG] at this)
  have hN64 : N ≤ 64 := by have := hG.1; omega
  have hsu := Lib.hid (fun w' (h : Eds w' v es) (hu : Vec iV w' u f) => surplus_any N s t v u es f w' h hu hN64 hG.2.2.2.2.1 hG.2.2.2.2.2 hF.1)
  have hFl := okFl_len hF.1
  have hES := Lib.hid h
  have hUS := Lib.hid hu
  have hFF := Lib.hid hF
  have hEE := Lib.hid hG.2.2.2.2.2
  have hS := Lib.hid hG.2.1
  obtain ⟨pa, b, o, cap, rfl, h1, h2, h3, h4⟩ := h
  obtain ⟨qa, qb, qo, qc, rfl, q1, q2, q3, q4⟩ := hu
  have hcap : cap ≤ 9223372036854775807 := by unfold maxLen at h3; omega
  have hlf := Lib.hid hFl
  have hne : ((f.length : Int) != (es.length : Int)) = false := by simp [hFl]
  clear hFl hF hG
  go_enter Try.func14, Try.ntmps14
  go_wp2_with (first
    | (go_at_call 5; refine (hck.out _ (hES.out.below (by repeat (first | with_reducible exact Below.refl _ _ | with_reducible assumption | with_reducible refine Below.drew ?_ | with_reducible refine Below.setCell ?_ (by first | omega | (simp; omega) | simp) _ | with_reducible refine Below.alloc ?_ (by first | omega | (simp; omega) | simp) _ | with_reducible refine Below.trans ?_ (Below.mono (by with_reducible assumption) (by first | omega | (simp; omega) | simp)))))).mono ?_; rintro e w1 ⟨rfl, hb1⟩; have hG := heap_old hb1 (heap_new w (.cells #[.int .i64 (N : Int), .int .i64 s, .int .i64 t, .slice pa es.length cap] 24) rfl); have hK := Below.next1 (Below.refl w.heap.size w) (Nat.le_refl _) hb1; clear hb1; (have g0 := cell_heap (o := 0) hG rfl; have g1 := cell_heap (o := 1) hG rfl; have g2 := cell_heap (o := 2) hG rfl; have g3 := cell_heap (o := 3) hG rfl)))
  (clear g0 g1 g2 g3)
  go_loopw [24] (fun x wr => ∃ i : Nat, i ≤ es.length ∧ x = .int .i64 i ∧ Below w.heap.size w wr ∧ wr.heap[w.heap.size]? = some (.cells #[.int .i64 (N : Int), .int .i64 s, .int .i64 t, .slice pa es.length cap] 24)) (fun x _ => es.length - (intOf x).toNat)
  case atStart => exact ⟨0, by omega, rfl, hK, hG⟩
  case round =>
    obtain ⟨i, hi, rfl, hb0, hG⟩ := hrel
    rcases Nat.lt_or_ge i es.length with hlt | hge
    · obtain rfl := h1 (by omega)
      have hif : i < f.length := by have := hlf.out; omega
      obtain rfl := q1 (by omega)
      obtain ⟨e, he⟩ : ∃ e, es[i]? = some e := ⟨_, List.getElem?_eq_getElem hlt⟩
      obtain ⟨x, hx, x0, x1⟩ := okFl_get hFF.out.1 he
      obtain ⟨c0, c1, c2⟩ := cB_at (cells_below (h4 i e he) hb0)
      have hqw : w.cell? ⟨qb, qo + i, none⟩ = some (.int .i64 x) := q4 i x hx
      have d0 := (((after hb0).1 _ _ (by rw [hqw]; rfl)).trans hqw)
      have hnx : es.length - (i + 1) < es.length - i := by omega
      obtain ⟨e1, e2, e3⟩ := e
      dsimp only at c0 c1 c2 x1
      have hltG := (Array.getElem?_eq_some_iff.1 hG).1
      have z1 : decide (x < 0) = false := decide_eq_false (by omega)
      have z2 : decide (e3 < x) = false := decide_eq_false (by omega)
      clear hx he h4 q4
      go_wp2_with fail
      have hl := @Later.cell
      refine region_later (by kernel_rfl) (by kernel_rfl) ?_; (repeat (go_big_quiet_step (fail))); refine wpQuiet_nil ?_; rintro _ ⟨x, rfl⟩; obtain ⟨w', hb⟩ := x; (try clear hc hf); (try clear hcM hfM); (try clear hcN hfN); (first | ((first | replace hB := Below.next hB (Nat.le_refl _) hb | replace hB := Below.next1 hB (Nat.le_refl _) hb | replace hB := Below.next2 hB (Nat.le_refl _) hb); (first | replace hM := Below.next hM (Nat.le_refl _) hb | replace hM := Below.next1 hM (Nat.le_refl _) hb | replace hM := Below.next2 hM (Nat.le_refl _) hb); (first | replace hN := Below.next hN (Nat.le_refl _) hb | replace hN := Below.next1 hN (Nat.le_refl _) hb | replace hN := Below.next2 hN (Nat.le_refl _) hb)) | ((first | replace hB := Below.next hB (Nat.le_refl _) hb | replace hB := Below.next1 hB (Nat.le_refl _) hb | replace hB := Below.next2 hB (Nat.le_refl _) hb); (first | replace hM := Below.next hM (Nat.le_refl _) hb | replace hM := Below.next1 hM (Nat.le_refl _) hb | replace hM := Below.next2 hM (Nat.le_refl _) hb); have hN := Below.mid hb) | ((first | replace hB := Below.next hB (Nat.le_refl _) hb | replace hB := Below.next1 hB (Nat.le_refl _) hb | replace hB := Below.next2 hB (Nat.le_refl _) hb); (first | replace hM := Below.next hM (Nat.le_refl _) hb | replace hM := Below.next1 hM (Nat.le_refl _) hb | replace hM := Below.next2 hM (Nat.le_refl _) hb)) | ((first | replace hB := Below.next hB (Nat.le_refl _) hb | replace hB := Below.next1 hB (Nat.le_refl _) hb | replace hB := Below.next2 hB (Nat.le_refl _) hb); have hM := Below.mid hb) | (first | replace hB := Below.next hB (Nat.le_refl _) hb | replace hB := Below.next1 hB (Nat.le_refl _) hb | replace hB := Below.next2 hB (Nat.le_refl _) hb) | have hB := hb); obtain ⟨hc, hf, hz⟩ := after hB; (try (have hq := after hM; obtain ⟨hcM, hfM, hzM⟩ := hq)); (try (have hq := after hN; obtain ⟨hcN, hfN, hzN⟩ := hq)); have hs := hb.size; (try simp at hz); (try simp at hs)
      dsimp only
      have hG2 := heap_old hb (heap_alloc (X := (.cells #[.int .i64 e1, .int .i64 e2, .int .i64 e3] 37)) hG)
      have hK2 := Below.next1 hb0 (Nat.le_refl _) hb
      go_wp2_with fail
      exact ⟨⟨i + 1, hlt, by simp, hK2, hG2⟩, by simpa [intOf] using hnx⟩
    · obtain rfl : i = es.length := by omega
      (have g0 := cell_heap (o := 0) hG rfl; have g1 := cell_heap (o := 1) hG rfl; have g2 := cell_heap (o := 2) hG rfl; have g3 := cell_heap (o := 3) hG rfl)
      go_wp2_with (first
        | (go_at_call 15; refine (hsu.out _ (hES.out.below hb0) (hUS.out.below hb0)).mono ?_; rintro e w3 ⟨u', rfl, hV, hb3⟩; obtain ⟨ra, rb, ro, rc, hv, r1, r2, r3, r4⟩ := hV; rw [surL_len] at hv r1 r2; subst hv; replace hG := heap_old hb3 hG; replace hb0 := Below.next hb0 (Nat.le_refl _) hb3; clear hb3; (clear g0 g1 g2 g3)))
      go_loopw [48] (fun x wr => ∃ k : Nat, k ≤ N ∧ x = .int .i64 k ∧ Below w.heap.size w wr ∧ wr.heap[w.heap.size]? = some (.cells #[.int .i64 (N : Int), .int .i64 s, .int .i64 t, .slice pa es.length cap] 24) ∧ ∀ i x, (surL N es f)[i]? = some x → wr.cell? ⟨rb, ro + i, none⟩ = some (iV x)) (fun x _ => N - (intOf x).toNat)
      case atStart => exact ⟨0, by omega, rfl, hb0, hG, r4⟩
      case round =>
        obtain ⟨k, hk, rfl, hb0, hG, r4⟩ := hrel
        rcases Nat.lt_or_ge k N with hlt | hge
        · obtain rfl := r1 (by omega)
          have c0 : wr.cell? ⟨rb, ro + k, none⟩ = some (.int .i64 (netOf (k : Int) es f)) := r4 k _ (surL_get hlt)
          have hz := hFF.out.2 (k : Int) (by omega) (by omega)
          have hnx : N - (k + 1) < N - k := by omega
          have R4 := Lib.hid r4
          clear r4
          (have g0 := cell_heap (o := 0) hG rfl; have g1 := cell_heap (o := 1) hG rfl; have g2 := cell_heap (o := 2) hG rfl; have g3 := cell_heap (o := 3) hG rfl)
          generalize netOf (k : Int) es f = Z at *
          by_cases z0 : Z = 0
          · clear hz
            subst z0
            go_wp2_with fail
            exact ⟨⟨k + 1, hlt, by simp, hb0, hG, R4.out⟩, by simpa [intOf] using hnx⟩
          · have z1 : (Z != 0) = true := by simpa using z0
            by_cases ks : (k : Int) = s
            · clear hz
              have z2 : ((k : Int) != s) = false := by simp [ks]
              clear ks
              go_wp2_with fail
              exact ⟨⟨k + 1, hlt, by simp, hb0, hG, R4.out⟩, by simpa [intOf] using hnx⟩
            · have kt : (k : Int) = t := by
                rcases Decidable.em ((k : Int) = t) with q | q
                · exact q
                · exact absurd (hz ks q) z0
              have z2 : ((k : Int) != s) = true := by simpa using ks
              have z3 : ((k : Int) != t) = false := by simp [kt]
              clear hz ks kt
              go_wp2_with fail
              exact ⟨⟨k + 1, hlt, by simp, hb0, hG, R4.out⟩, by simpa [intOf] using hnx⟩
        · obtain rfl : k = N := by omega
          (have g0 := cell_heap (o := 0) hG rfl; have g1 := cell_heap (o := 1) hG rfl; have g2 := cell_heap (o := 2) hG rfl; have g3 := cell_heap (o := 3) hG rfl)
          go_wp2_with fail
          go_ret
          exact ⟨rfl, hb0⟩
set_option maxRecDepth 100000 in
set_option maxHeartbeats 8000000 in
theorem value_ok (N : Nat) (s t : Int) (v u : Value) (es : List ED) (f : List Int) (w : World) (h : Eds w v es) (hu : Vec iV w u f) (hG : okG N s t es) (hF : flowP N s t es f) :
    Calls Try.prog 7 #[.agg #[.int .i64 (N : Int), .int .i64 s, .int .i64 t, v], u] w fun e w' => e = .returned (.tuple #[.int .i64 (netOf s es f), .int .i64 0]) ∧ Below w.heap.size w w' := by
  have hN64 : N ≤ 64 := by have := hG.1; omega
  have hfe := Lib.hid (fun w' (h : Eds w' v es) (hu : Vec iV w' u f) => feasible_ok N s t v u es f w' h hu hG hF)
  have hsu := Lib.hid (fun w' (h : Eds w' v es) (hu : Vec iV w' u f) => surplus_any N s t v u es f w' h hu hN64 hG.2.2.2.2.1 hG.2.2.2.2.2 hF.1)
  have hES := Lib.hid h
  have hUS := Lib.hid hu
  obtain ⟨a, rfl⟩ := Int.eq_ofNat_of_zero_le hG.2.1.1
  have haN : a < N := by have := hG.2.1.2; omega
  obtain ⟨pa, b, o, cap, rfl, h1, h2, h3, h4⟩ := h
  obtain ⟨qa, qb, qo, qc, rfl, q1, q2, q3, q4⟩ := hu
  have hga := Lib.hid (surL_get (es := es) (f := f) haN)
  clear hF hG h4 q4
  go_enter Try.func7, Try.ntmps7
  go_wp2_with (first
    | (go_at_call 14; refine (hfe.out _ (hES.out.below (by repeat (first | with_reducible exact Below.refl _ _ | with_reducible assumption | with_reducible refine Below.drew ?_ | with_reducible refine Below.setCell ?_ (by first | omega | (simp; omega) | simp) _ | with_reducible refine Below.alloc ?_ (by first | omega | (simp; omega) | simp) _ | with_reducible refine Below.trans ?_ (Below.mono (by with_reducible assumption) (by first | omega | (simp; omega) | simp))))) (hUS.out.below (by repeat (first | with_reducible exact Below.refl _ _ | with_reducible assumption | with_reducible refine Below.drew ?_ | with_reducible refine Below.setCell ?_ (by first | omega | (simp; omega) | simp) _ | with_reducible refine Below.alloc ?_ (by first | omega | (simp; omega) | simp) _ | with_reducible refine Below.trans ?_ (Below.mono (by with_reducible assumption) (by first | omega | (simp; omega) | simp)))))).mono ?_; rintro e w1 ⟨rfl, hb1⟩; have hG := heap_old hb1 (heap_new w (.cells #[.int .i64 (N : Int), .int .i64 (a : Int), .int .i64 t, .slice pa es.length cap] 24) rfl); have hK := Below.next1 (Below.refl w.heap.size w) (Nat.le_refl _) hb1; clear hb1; (have g0 := cell_heap (o := 0) hG rfl; have g1 := cell_heap (o := 1) hG rfl; have g2 := cell_heap (o := 2) hG rfl; have g3 := cell_heap (o := 3) hG rfl)))
  go_region_with (first
    | (go_at_call 15; refine (hsu.out _ (hES.out.below (by repeat (first | with_reducible exact Below.refl _ _ | with_reducible assumption | with_reducible refine Below.drew ?_ | with_reducible refine Below.setCell ?_ (by first | omega | (simp; omega) | simp) _ | with_reducible refine Below.alloc ?_ (by first | omega | (simp; omega) | simp) _ | with_reducible refine Below.trans ?_ (Below.mono (by with_reducible assumption) (by first | omega | (simp; omega) | simp))))) (hUS.out.below (by repeat (first | with_reducible exact Below.refl _ _ | with_reducible assumption | with_reducible refine Below.drew ?_ | with_reducible refine Below.setCell ?_ (by first | omega | (simp; omega) | simp) _ | with_reducible refine Below.alloc ?_ (by first | omega | (simp; omega) | simp) _ | with_reducible refine Below.trans ?_ (Below.mono (by with_reducible assumption) (by first | omega | (simp; omega) | simp)))))).mono ?_; rintro e w3 ⟨u', rfl, hV, hb3⟩; obtain ⟨ra, rb, ro, rc, hv, r1, r2, r3, r4⟩ := hV; rw [surL_len] at hv r1 r2; subst hv; obtain rfl := r1 (by omega); have k0 : w3.cell? ⟨rb, ro + a, none⟩ = some (.int .i64 (netOf (a : Int) es f)) := r4 a _ hga.out; have hG3 := heap_old hb3 (heap_drew hG); have m1 := cell_heap (o := 1) hG3 rfl; replace hK := Below.next (Below.drew hK) (Nat.le_refl _) hb3; clear r4))
  all_goals
    go_wp2_with fail
    go_ret2
    exact ⟨rfl, (by repeat (first | with_reducible exact Below.refl _ _ | with_reducible assumption | with_reducible refine Below.drew ?_ | with_reducible refine Below.setCell ?_ (by first | omega | (simp; omega) | simp) _ | with_reducible refine Below.alloc ?_ (by first | omega | (simp; omega) | simp) _ | with_reducible refine Below.trans ?_ (Below.mono (by with_reducible assumption) (by first | omega | (simp; omega) | simp))))⟩
/-- The cut as a function. -/
def cutF (c : List Bool) (v : Int) : Bool := c[v.toNat]?.getD false
theorem cutF_at {c : List Bool} {a : Nat} {x : Bool} (h : c[a]? = some x) : cutF c (a : Int) = x := by unfold cutF; rw [Int.toNat_natCast, h]; rfl
theorem cap_take (c : Int → Bool) : ∀ {es : List ED} {i : Nat} {e : ED}, es[i]? = some e → capOf c (es.take (i + 1)) = capOf c (es.take i) + (if c e.1 && !c e.2.1 then e.2.2 else 0)
  | [], _, _, h => by simp at h
  | a :: es, 0, e, h => by
    simp at h; subst h
    simp [capOf]
  | a :: es, i + 1, e, h => by
    have := cap_take c (es := es) (i := i) (e := e) (by simpa using h)
    simp only [List.take_succ_cons, capOf]
    rw [this]; omega
theorem cap_bd (c : Int → Bool) {B : Int} (h0 : 0 ≤ B) : ∀ {es : List ED}, (∀ e ∈ es, 0 ≤ e.2.2 ∧ e.2.2 ≤ B) → 0 ≤ capOf c es ∧ capOf c es ≤ B * es.length
  | [], _ => by simp [capOf]
  | e :: es, hB => by
    have ih := cap_bd c h0 (es := es) (fun e he => hB e (List.mem_cons_of_mem _ he))
    have he := hB e (List.mem_cons_self ..)
    simp only [capOf, List.length_cons]
    have e1 : B * ((es.length + 1 : Nat) : Int) = B * (es.length : Int) + B := by rw [Int.natCast_add, Int.mul_add]; simp
    rw [e1]
    split <;> omega
set_option maxRecDepth 100000 in
set_option maxHeartbeats 8000000 in
theorem capacity_ok (N : Nat) (s t : Nat) (v u : Value) (es : List ED) (c : List Bool) (w : World) (h : Eds w v es) (hu : Vec bV w u c) (hG : okG N s t es) (hc : c.length = N) (hs : c[s]? = some true) (ht : c[t]? = some false) :
    Calls Try.prog 8 #[.agg #[.int .i64 (N : Int), .int .i64 (s : Int), .int .i64 (t : Int), v], u] w fun e w' => e = .returned (.tuple #[.int .i64 (capOf (cutF c) es), .int .i64 0]) ∧ Below w.heap.size w w' := by
  have hck := Lib.hid (fun w' (h : Eds w' v es) => by have := gcheck_any N s t v es w' h; rwa [(chkG_iff N s t es).2 hG] at this)
  have hES := Lib.hid h
  have hUS := Lib.hid hu
  have hEE := Lib.hid hG.2.2.2.2.2
  have hl6 := hG.2.2.2.2.1
  have hsN : s < N := by have := hG.2.1.2; omega
  have htN : t < N := by have := hG.2.2.1.2; omega
  obtain ⟨pa, b, o, cap, rfl, h1, h2, h3, h4⟩ := h
  obtain ⟨qa, qb, qo, qc, hv, q1, q2, q3, q4⟩ := hu
  rw [hc] at hv q1 q2
  subst hv
  obtain rfl := q1 (by omega)
  have hcap : cap ≤ 9223372036854775807 := by unfold maxLen at h3; omega
  have ws : w.cell? ⟨qb, qo + s, none⟩ = some (.bool true) := q4 s _ hs
  have wt : w.cell? ⟨qb, qo + t, none⟩ = some (.bool false) := q4 t _ ht
  have hCC := Lib.hid hc
  clear hc hs ht hG
  go_enter Try.func8, Try.ntmps8
  go_wp2_with (first
    | (go_at_call 5; refine (hck.out _ (hES.out.below (by repeat (first | with_reducible exact Below.refl _ _ | with_reducible assumption | with_reducible refine Below.drew ?_ | with_reducible refine Below.setCell ?_ (by first | omega | (simp; omega) | simp) _ | with_reducible refine Below.alloc ?_ (by first | omega | (simp; omega) | simp) _ | with_reducible refine Below.trans ?_ (Below.mono (by with_reducible assumption) (by first | omega | (simp; omega) | simp)))))).mono ?_; rintro e w1 ⟨rfl, hb1⟩; have hG := heap_old hb1 (heap_new w (.cells #[.int .i64 (N : Int), .int .i64 (s : Int), .int .i64 (t : Int), .slice pa es.length cap] 24) rfl); have hK := Below.next1 (Below.refl w.heap.size w) (Nat.le_refl _) hb1; clear hb1; (have g0 := cell_heap (o := 0) hG rfl; have g1 := cell_heap (o := 1) hG rfl; have g2 := cell_heap (o := 2) hG rfl; have g3 := cell_heap (o := 3) hG rfl); have k1 : w1.cell? ⟨qb, qo + s, none⟩ = some (.bool true) := (((after hK).1 _ _ (by rw [ws]; rfl)).trans ws); have k2 : w1.cell? ⟨qb, qo + t, none⟩ = some (.bool false) := (((after hK).1 _ _ (by rw [wt]; rfl)).trans wt)))
  (clear g0 g1 g2 g3)
  go_loopw [7, 38] (fun y x wr => ∃ i : Nat, i ≤ es.length ∧ x = .int .i64 i ∧ y = .int .i64 (capOf (cutF c) (es.take i)) ∧ Below w.heap.size w wr) (fun _ x _ => es.length - (intOf x).toNat)
  case atStart => exact ⟨0, by omega, rfl, rfl, hK⟩
  case round =>
    obtain ⟨i, hi, rfl, rfl, hb0⟩ := hrel
    rcases Nat.lt_or_ge i es.length with hlt | hge
    · obtain rfl := h1 (by omega)
      obtain ⟨e, he⟩ : ∃ e, es[i]? = some e := ⟨_, List.getElem?_eq_getElem hlt⟩
      obtain ⟨⟨y1, y2⟩, ⟨y3, y4⟩, y5, y6, y7⟩ := hEE.out e (List.mem_of_getElem? he)
      obtain ⟨c0, c1, c2⟩ := cB_at (cells_below (h4 i e he) hb0)
      have hnx : es.length - (i + 1) < es.length - i := by omega
      have hst := cap_take (cutF c) he
      have hbd := cap_bd (cutF c) (B := 1073741824) (by omega) (es := es.take i) (fun e he => (hEE.out e (List.mem_of_mem_take he)).2.2.2)
      have hln : (es.take i).length ≤ 600 := by rw [List.length_take]; omega
      obtain ⟨e1, e2, e3⟩ := e
      obtain ⟨a, rfl⟩ := Int.eq_ofNat_of_zero_le y1
      obtain ⟨p, rfl⟩ := Int.eq_ofNat_of_zero_le y3
      dsimp only at c0 c1 c2 y2 y4 y6 y7 hst
      have haN : a < N := by omega
      have hpN : p < N := by omega
      obtain ⟨x, hx⟩ : ∃ x, c[a]? = some x := ⟨_, List.getElem?_eq_getElem (by rw [hCC.out]; exact haN)⟩
      obtain ⟨z, hz⟩ : ∃ z, c[p]? = some z := ⟨_, List.getElem?_eq_getElem (by rw [hCC.out]; exact hpN)⟩
      have wa : w.cell? ⟨qb, qo + a, none⟩ = some (.bool x) := q4 a _ hx
      have wp : w.cell? ⟨qb, qo + p, none⟩ = some (.bool z) := q4 p _ hz
      have m1 := ((after hb0).1 _ _ (by rw [wa]; rfl)).trans wa
      have m2 := ((after hb0).1 _ _ (by rw [wp]; rfl)).trans wp
      rw [cutF_at hx, cutF_at hz] at hst
      generalize capOf (cutF c) (es.take i) = C at *
      generalize hD : capOf (cutF c) (es.take (i + 1)) = D at *
      have hDD := Lib.hid hD
      have hC0 : 0 ≤ C := by omega
      have hC1 : C ≤ 644245094400 := by omega
      have hT := Lib.hid hst
      clear hx hz he h4 q4 y1 y3 y5 hst hD wa wp ws wt hbd hln
      cases x <;> cases z
      all_goals
        go_wp2_with fail
        exact ⟨⟨i + 1, hlt, by simp, by rw [hDD.out, hT.out]; simp, by first | exact hb0.alloc hb0.size _⟩, by simpa [intOf] using hnx⟩
    · obtain rfl : i = es.length := by omega
      rw [List.take_length]
      go_wp2_with fail
      go_ret2
      exact ⟨rfl, hb0⟩
end Go.Proofs.Ytajdfcliiefjgaa
