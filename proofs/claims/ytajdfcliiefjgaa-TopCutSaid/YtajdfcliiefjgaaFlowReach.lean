/-
  Contract of flow.reach.
  Conditions: none.
-/
import Derived.Test.YtajdfcliiefjgaaFlowBfs
import Derived.Test.YtajdfcliiefjgaaFlowQueue
import Derived.Test.YtajdfcliiefjgaaAbs
namespace Go.Proofs.Ytajdfcliiefjgaa
open Go.RowKit
/-- How many cells of a block hold false. -/
def isF : Value → Bool
  | .bool false => true
  | _ => false
def falseN (w : World) (g : Nat) : Nat := match w.heap[g]? with
  | some (.cells cur _ _) => cur.toList.countP isF
  | _ => 0
def lenV : Value → Nat
  | .slice _ n _ => n
  | _ => 0
theorem falseN_at {w : World} {g : Nat} {t : TypeId} {fr : Nat × Nat} {c : List Bool} (h : w.heap[g]? = some (.cells (c.map bV).toArray t fr)) : falseN w g = c.count false := by
  unfold falseN
  rw [h]
  simp only
  rw [List.countP_map]
  unfold List.count
  congr 1
  funext x
  cases x <;> rfl
set_option maxRecDepth 100000 in
set_option maxHeartbeats 8000000 in
theorem reach_any (N s : Nat) (t : Int) (v u : Value) (es : List ED) (f : List Int) (w : World) (h : Eds w v es) (hu : Vec iV w u f) (hG : okG N s t es) (hF : okFl es f) :
    Calls Try.prog 12 #[.agg #[.int .i64 (N : Int), .int .i64 (s : Int), .int .i64 t, v], u] w fun e w' => ∃ u1 u2 c b l, e = .returned (.tuple #[u1, u2]) ∧ Vec bV w' u1 c ∧ Held 2 cA w' u2 b ∧ Bfs N s es f c b l l.length ∧ Below w.heap.size w w' := by
  have hN64 : N ≤ 64 := by have := hG.1; omega
  have hmk := run_make_row' (P := Try.prog) 29 4 (.bool false) 1 Try.underlying29 (by kernel_rfl) rfl .i64 .i64 N (by omega) (by omega)
  obtain ⟨i2, hi2, hz2, hs2, hy2⟩ := info_parts (P := Try.prog) (e := 48) (z := .agg #[.int .i64 0, .bool false]) (size := 2) (bytes := 16) (by kernel_rfl)
  have hmk2 : ∀ w : World, (Instr.makeSlice 44 (.int .i64 (N : Int)) (.int .i64 (N : Int))).run Try.prog w = .ok (.slice (some ⟨w.heap.size, 0, none⟩) N N) (w.alloc (.cells ((List.replicate N ((0, false) : AR)).flatMap cA).toArray 48)) := by
    intro w
    have := run_make (P := Try.prog) w 44 48 i2 _ Try.underlying44 hi2 hz2 .i64 .i64 (N : Int) (N : Int) (by omega) (by omega) (by rw [hy2]; omega) (by omega)
    rw [Int.toNat_natCast, hs2] at this
    rw [this, ← arcs_made]
    rfl
  obtain ⟨i3, hi3, hz3, hs3, hy3⟩ := info_parts (P := Try.prog) (e := 3) (z := .int .i64 0) (size := 1) (bytes := 8) (by kernel_rfl)
  have hES := Lib.hid h
  have hUS := Lib.hid hu
  have hGG := Lib.hid hG
  have hFF := Lib.hid hF
  have hsN : s < N := by have := hG.2.1.2; omega
  have hn0 : ((N : Int) < 0) = False := by simp
  obtain ⟨pa, b0, o, cap, rfl, h1, h2, h3, h4⟩ := h
  obtain ⟨qa, qb, qo, qc, rfl, q1, q2, q3, q4⟩ := hu
  have hcap : cap ≤ 9223372036854775807 := by unfold maxLen at h3; omega
  clear hG hF hn0
  rw [made_zero] at hmk
  go_enter Try.func12, Try.ntmps12
  go_wp2_with fail
  refine wp_abs (fun a0 a' W => ∃ x y, a' = ((((((((a0.put (some 14) (.pointer (some ⟨w.heap.size, 0, none⟩))).put (some 15) (.int .i64 (N : Int))).put (some 16) (.slice (some ⟨x, 0, none⟩) N N)).put (some 17) (.pointer (some ⟨w.heap.size, 0, none⟩))).put (some 18) (.int .i64 (N : Int))).put (some 19) (.slice (some ⟨y, 0, none⟩) N N)).put (some 6) (.slice (some ⟨x, 0, none⟩) N N)).put (some 7) (.slice (some ⟨y, 0, none⟩) N N)) ∧ Below w.heap.size w W ∧ W.heap[x]? = some (.cells (Array.replicate N (.bool false)) 4) ∧ W.heap[y]? = some (.cells ((List.replicate N ((0, false) : AR)).flatMap cA).toArray 48) ∧ W.heap[w.heap.size]? = some (.cells #[.int .i64 (N : Int), .int .i64 (s : Int), .int .i64 t, .slice pa es.length cap] 24) ∧ x ≠ y ∧ w.heap.size < x ∧ w.heap.size < y) ?_ ?_
  · first | go_region_with (fail) | fail
    all_goals
      refine ⟨?_, ?_, ?_, ?_⟩
      rotate_left 2
      · simp only [Act.put, List.setIfInBounds_toArray, List.set_cons_succ, List.set_cons_zero]
        rfl
      · exact ⟨(by repeat (first | with_reducible exact Below.refl _ _ | with_reducible assumption | with_reducible refine Below.drew ?_ | with_reducible refine Below.setCell ?_ (by first | omega | (simp; omega) | simp) _ | with_reducible refine Below.alloc ?_ (by first | omega | (simp; omega) | simp) _ | with_reducible refine Below.trans ?_ (Below.mono (by with_reducible assumption) (by first | omega | (simp; omega) | simp)))), (by first | ((repeat (first | with_reducible assumption | with_reducible refine heap_drew ?_ | with_reducible refine heap_new _ _ (by first | rfl | (simp; done) | fail "no") | with_reducible apply heap_alloc)); done) | fail "no"), (by first | ((repeat (first | with_reducible assumption | with_reducible refine heap_drew ?_ | with_reducible refine heap_new _ _ (by first | rfl | (simp; done) | fail "no") | with_reducible apply heap_alloc)); done) | fail "no"), (by first | ((repeat (first | with_reducible assumption | with_reducible refine heap_drew ?_ | with_reducible refine heap_new _ _ (by first | rfl | (simp; done) | fail "no") | with_reducible apply heap_alloc)); done) | fail "no"), by omega, by omega, by omega⟩
  · rintro a' W ⟨gx, gy, rfl, hK, hX, hY, hG, hxy, hwx, hwy⟩
    simp only [Act.put, List.setIfInBounds_toArray, List.set_cons_succ, List.set_cons_zero]
    have hWx := (Array.getElem?_eq_some_iff.1 hX).1
    have hWy := (Array.getElem?_eq_some_iff.1 hY).1
    have hWG := (Array.getElem?_eq_some_iff.1 hG).1
    have hX0 : W.heap[gx]? = some (.cells ((List.replicate N false).map bV).toArray 4) := by rw [hX, ← made_vec]; rfl
    have k0 : W.cell? ⟨gx, s, none⟩ = some (.bool false) := cell_vec hX0 (by rw [List.getElem?_replicate, if_pos hsN])
    have kf := frozen_heap (o := s) hX
    (have g0 := cell_heap (o := 0) hG rfl; have g1 := cell_heap (o := 1) hG rfl; have g2 := cell_heap (o := 2) hG rfl; have g3 := cell_heap (o := 3) hG rfl)
    go_wp2_with fail
    have hX1 : ((World.alloc (World.setCell W ⟨gx, s, none⟩ (.bool true)) (.cells #[.int .i64 (s : Int)] 3))).heap[gx]? = some (.cells (((List.replicate N false).set s true).map bV).toArray 4) := heap_alloc (heap_setV (f := bV) hX0)
    have hY1 : ((World.alloc (World.setCell W ⟨gx, s, none⟩ (.bool true)) (.cells #[.int .i64 (s : Int)] 3))).heap[gy]? = some (.cells ((List.replicate N ((0, false) : AR)).flatMap cA).toArray 48) := heap_alloc (heap_set_other hY (Ne.symm hxy))
    have hG1 : ((World.alloc (World.setCell W ⟨gx, s, none⟩ (.bool true)) (.cells #[.int .i64 (s : Int)] 3))).heap[w.heap.size]? = some (.cells #[.int .i64 (N : Int), .int .i64 (s : Int), .int .i64 t, .slice pa es.length cap] 24) := heap_alloc (heap_set_other hG (by omega))
    have hK1 : Below w.heap.size w ((World.alloc (World.setCell W ⟨gx, s, none⟩ (.bool true)) (.cells #[.int .i64 (s : Int)] 3))) := Below.alloc (Below.setCell hK (Nat.le_of_lt hwx) _ (p := ⟨gx, s, none⟩)) (by have := hK.size; simpa using this) _
    have hQ1 : QOwn ((World.alloc (World.setCell W ⟨gx, s, none⟩ (.bool true)) (.cells #[.int .i64 (s : Int)] 3))) W.heap.size 3 (.slice (some ⟨W.heap.size, 0, none⟩) 1 1) [(s : Int)] := ⟨W.heap.size, 0, 1, _, rfl, Nat.le_refl _, heap_new _ _ (by simp), by simp, by unfold maxLen; omega, by simp, fun i x hx => by match i, hx with | 0, hx => simp at hx; subst hx; rfl⟩
    have hB1 := Bfs.start (N := N) (s := (s : Int)) (es := es) (f := f) (by omega) (by omega)
    rw [Int.toNat_natCast] at hB1
    have hS1 : W.heap.size + 1 ≤ ((World.alloc (World.setCell W ⟨gx, s, none⟩ (.bool true)) (.cells #[.int .i64 (s : Int)] 3))).heap.size := by simp
    generalize (World.alloc (World.setCell W ⟨gx, s, none⟩ (.bool true)) (.cells #[.int .i64 (s : Int)] 3)) = W1 at *
    clear k0 kf g0 g1 g2 g3 hX0 hX hY hG hK
    go_loopw [8] (fun q wr => ∃ c b l h, Bfs N s es f c b l h ∧ Below w.heap.size w wr ∧ wr.heap[w.heap.size]? = some (.cells #[.int .i64 (N : Int), .int .i64 (s : Int), .int .i64 t, .slice pa es.length cap] 24) ∧ wr.heap[gx]? = some (.cells (c.map bV).toArray 4) ∧ wr.heap[gy]? = some (.cells (b.flatMap cA).toArray 48) ∧ QOwn wr W.heap.size 3 q (l.drop h)) (fun q wr => 2 * falseN wr gx + lenV q)
    case atStart => exact ⟨_, _, _, 0, hB1, hK1, hG1, hX1, hY1, hQ1⟩
    case round =>
      obtain ⟨c, b, l, z, hB, hK, hG, hX, hY, hQ⟩ := hrel
      rcases hd : l.drop z with _ | ⟨n, r⟩
      · rw [hd] at hQ
        obtain ⟨g, oq, cq, cur, rfl, p1, p2, p3, p4, p5, p6⟩ := hQ
        have hz : z = l.length := by
          have h1 := congrArg List.length hd
          rw [List.length_drop, List.length_nil] at h1
          have := hB.hle
          omega
        subst hz
        have hBB := Lib.hid hB
        clear hB hd p1 p2 p3 p4 p5 p6
        go_wp2_with fail
        go_ret2
        exact ⟨_, _, c, b, l, rfl, vec_here hX hBB.out.clen (by unfold maxLen; omega), held_arcs hY hBB.out.blen (by unfold maxLen; omega), hBB.out, hK⟩
      · have hB0 := hB
        have hln : l[z]? = some n := by
          have := congrArg (fun x => x[0]?) hd
          simpa [List.getElem?_drop] using this
        have hdr : l.drop (z + 1) = r := by
          have := congrArg (List.drop 1) hd
          rw [List.drop_drop] at this
          simpa using this
        rw [hd] at hQ
        obtain ⟨g, oq, cq, cur, rfl, p1, p2, p3, p4, p5, p6⟩ := hQ
        have k0 : wr.cell? ⟨g, oq, none⟩ = some (.int .i64 n) := cell_heap p2 (by have := p6 0 n rfl; simpa using this)
        simp only [List.length_cons] at p3
        have hQ2 : QOwn wr W.heap.size 3 (.slice (some ⟨g, oq + 1, none⟩) r.length (cq - 1)) r := ⟨g, oq + 1, cq - 1, cur, rfl, p1, p2, by omega, by omega, by omega, fun i x hx => by have := p6 (i + 1) x (by simpa using hx); rwa [show oq + 1 + i = oq + (i + 1) by omega]⟩
        have hQ1 : cq = 1 → QOwn wr W.heap.size 3 (.slice (some ⟨g, oq, none⟩) r.length 0) r := fun e => ⟨g, oq, 0, cur, rfl, p1, p2, by omega, by unfold maxLen; omega, by omega, fun i x hx => by have := (List.getElem?_eq_some_iff.1 hx).1; omega⟩
        obtain ⟨m, rfl⟩ := Int.eq_ofNat_of_zero_le (hB.inr n (List.mem_of_getElem? hln)).1
        have hmN : m < N := by have := (hB.inr _ (List.mem_of_getElem? hln)).2; omega
        have hM0 := falseN_at hX
        have hQ1' := Lib.hid hQ1
        have hlr : l.length - (z + 1) = r.length := by rw [← hdr, List.length_drop]
        have hHD := Lib.hid hdr
        have hHL := Lib.hid hlr
        have hLN := Lib.hid hln
        have hMM := Lib.hid hM0
        (have g0 := cell_heap (o := 0) hG rfl; have g1 := cell_heap (o := 1) hG rfl; have g2 := cell_heap (o := 2) hG rfl; have g3 := cell_heap (o := 3) hG rfl)
        clear hdr hlr hln hd hM0 p1 p2 p3 p4 p5 p6 hQ1
        go_wp2_with fail
        all_goals
          clear k0 g0 g1 g2 g3
          generalize hWW : wr = w0 at *
          have hWH := Lib.hid hWW
          clear hWW
          go_loopw [8, 38] (fun q x wr => ∃ (i : Nat) (c2 : List Bool) (b2 : List AR) (l2 : List Int), i ≤ es.length ∧ x = .int .i64 i ∧ Bfs N s es f c2 b2 l2 z ∧ shutAt es f l2 m i ∧ l2[z]? = some (m : Int) ∧ Below w.heap.size w wr ∧ wr.heap[w.heap.size]? = some (.cells #[.int .i64 (N : Int), .int .i64 (s : Int), .int .i64 t, .slice pa es.length cap] 24) ∧ wr.heap[gx]? = some (.cells (c2.map bV).toArray 4) ∧ wr.heap[gy]? = some (.cells (b2.flatMap cA).toArray 48) ∧ QOwn wr W.heap.size 3 q (l2.drop (z + 1)) ∧ 2 * c2.count false + (l2.length - (z + 1)) ≤ 2 * c.count false + r.length) (fun _ x _ => es.length - (intOf x).toNat)
          case atStart => exact ⟨0, c, b, l, by omega, rfl, hB, shutAt_zero _ _ _ _, hLN.out, hK, hG, hX, hY, by rw [hHD.out]; first | exact hQ2 | exact hQ1'.out (by assumption), by rw [hHL.out]; exact Nat.le_refl _⟩
          case round =>
            obtain ⟨i, c2, b2, l2, hi, rfl, hB2, hSh, hL2, hK, hG, hX, hY, hQ, hM⟩ := hrel
            rcases Nat.lt_or_ge i es.length with hlt | hge
            · obtain rfl := h1 (by omega)
              obtain ⟨e, he⟩ : ∃ e, es[i]? = some e := ⟨_, List.getElem?_eq_getElem hlt⟩
              obtain ⟨⟨y1, y2⟩, ⟨y3, y4⟩, y5, y6, y7⟩ := hGG.out.2.2.2.2.2 e (List.mem_of_getElem? he)
              obtain ⟨c0, c1, c2'⟩ := cB_at (cells_below (h4 i e he) hK)
              obtain ⟨e1, e2, e3⟩ := e
              obtain ⟨a, rfl⟩ := Int.eq_ofNat_of_zero_le y1
              obtain ⟨p, rfl⟩ := Int.eq_ofNat_of_zero_le y3
              dsimp only at c0 c1 c2' y2 y4 y5 y6 y7
              have haN : a < N := by omega
              have hpN : p < N := by omega
              have hap : a ≠ p := by omega
              have hnx : es.length - (i + 1) < es.length - i := by omega
              go_wp2_with fail
              go_region
              --begin
              have hbW : Below wr.heap.size wr ((World.drew (World.alloc (World.alloc wr ((.cells #[.int .i64 (a : Int), .int .i64 (p : Int), .int .i64 e3] 37))) (.cells #[.int .i64 (i : Int), .bool false] 48)))) := Below.drew (Below.alloc (Below.alloc (Below.refl _ _) (Nat.le_refl _) _) (by simp) _)
              have hK3 : Below w.heap.size w ((World.drew (World.alloc (World.alloc wr ((.cells #[.int .i64 (a : Int), .int .i64 (p : Int), .int .i64 e3] 37))) (.cells #[.int .i64 (i : Int), .bool false] 48)))) := Below.trans hK (hbW.mono hK.size)
              have hG3 : ((World.drew (World.alloc (World.alloc wr ((.cells #[.int .i64 (a : Int), .int .i64 (p : Int), .int .i64 e3] 37))) (.cells #[.int .i64 (i : Int), .bool false] 48)))).heap[w.heap.size]? = some ((.cells #[.int .i64 (N : Int), .int .i64 (s : Int), .int .i64 t, .slice (some ⟨b0, o, none⟩) es.length cap] 24)) := heap_old hbW hG
              have hX3 : ((World.drew (World.alloc (World.alloc wr ((.cells #[.int .i64 (a : Int), .int .i64 (p : Int), .int .i64 e3] 37))) (.cells #[.int .i64 (i : Int), .bool false] 48)))).heap[gx]? = some (.cells (c2.map bV).toArray 4) := heap_old hbW hX
              have hY3 : ((World.drew (World.alloc (World.alloc wr ((.cells #[.int .i64 (a : Int), .int .i64 (p : Int), .int .i64 e3] 37))) (.cells #[.int .i64 (i : Int), .bool false] 48)))).heap[gy]? = some (.cells (b2.flatMap cA).toArray 48) := heap_old hbW hY
              have hQ3 := hQ.below hbW
              have hA3 : ((World.drew (World.alloc (World.alloc wr ((.cells #[.int .i64 (a : Int), .int .i64 (p : Int), .int .i64 e3] 37))) (.cells #[.int .i64 (i : Int), .bool false] 48)))).heap[wr.heap.size + 1]? = some (.cells #[.int .i64 (i : Int), .bool false] 48) := heap_drew (heap_new _ _ (by simp))
              have hE3 : ((World.drew (World.alloc (World.alloc wr ((.cells #[.int .i64 (a : Int), .int .i64 (p : Int), .int .i64 e3] 37))) (.cells #[.int .i64 (i : Int), .bool false] 48)))).heap[wr.heap.size]? = some ((.cells #[.int .i64 (a : Int), .int .i64 (p : Int), .int .i64 e3] 37)) := heap_drew (heap_alloc (heap_new wr ((.cells #[.int .i64 (a : Int), .int .i64 (p : Int), .int .i64 e3] 37)) rfl))
              have hsW : W.heap.size < wr.heap.size := by obtain ⟨g, _, q2, q3⟩ := hQ.lt; omega
              obtain ⟨ub, hub, hub1, hub2⟩ := hQ.lt
              have hqx : u8.ownBlock ≠ some gx := fun q => by rw [hub] at q; have := Option.some.inj q; omega
              have hqy : u8.ownBlock ≠ some gy := fun q => by rw [hub] at q; have := Option.some.inj q; omega
              have hqa : u8.ownBlock ≠ some (wr.heap.size + 1) := fun q => by rw [hub] at q; have := Option.some.inj q; omega
              generalize (World.drew (World.alloc (World.alloc wr ((.cells #[.int .i64 (a : Int), .int .i64 (p : Int), .int .i64 e3] 37))) (.cells #[.int .i64 (i : Int), .bool false] 48))) = W3 at *
              have hba : wr.heap.size ≠ wr.heap.size + 1 ∧ wr.heap.size + 1 ≠ gx ∧ wr.heap.size + 1 ≠ gy ∧ wr.heap.size + 1 ≠ w.heap.size ∧ w.heap.size ≤ wr.heap.size + 1 := by omega
              obtain ⟨hbe, hbx, hby, hbg, hbw⟩ := hba
              generalize wr.heap.size + 1 = ba at *
              generalize wr.heap.size = be at *
              clear hK hG hX hY hQ hbW hub hub1 hub2 hsW c0 c1 c2' y1 y3 y5 h4
              have x0 := cell_heap (o := 0) hE3 rfl
              have x1 := cell_heap (o := 1) hE3 rfl
              by_cases hpm : p = m
              · subst hpm
                have a0 := cell_heap (o := 0) hA3 rfl
                have a1 := cell_heap (o := 1) hA3 rfl
                have e0 := frozen_heap (o := 0) hA3
                have e1 := frozen_heap (o := 1) hA3
                go_wp2_with fail
                go_region
                have hK4 : Below w.heap.size w ((World.drew (World.setCell (World.setCell W3 ⟨ba, 0, none⟩ (.int .i64 (i : Int))) ⟨ba, 1, none⟩ (.bool true)))) := Below.drew (Below.setCell (Below.setCell hK3 hbw _) hbw _)
                have hG4 : ((World.drew (World.setCell (World.setCell W3 ⟨ba, 0, none⟩ (.int .i64 (i : Int))) ⟨ba, 1, none⟩ (.bool true)))).heap[w.heap.size]? = some ((.cells #[.int .i64 (N : Int), .int .i64 (s : Int), .int .i64 t, .slice (some ⟨b0, o, none⟩) es.length cap] 24)) := heap_drew (heap_set_other (heap_set_other hG3 (Ne.symm hbg)) (Ne.symm hbg))
                have hX4 : ((World.drew (World.setCell (World.setCell W3 ⟨ba, 0, none⟩ (.int .i64 (i : Int))) ⟨ba, 1, none⟩ (.bool true)))).heap[gx]? = some (.cells (c2.map bV).toArray 4) := heap_drew (heap_set_other (heap_set_other hX3 (Ne.symm hbx)) (Ne.symm hbx))
                have hY4 : ((World.drew (World.setCell (World.setCell W3 ⟨ba, 0, none⟩ (.int .i64 (i : Int))) ⟨ba, 1, none⟩ (.bool true)))).heap[gy]? = some (.cells (b2.flatMap cA).toArray 48) := heap_drew (heap_set_other (heap_set_other hY3 (Ne.symm hby)) (Ne.symm hby))
                have hA4 : ((World.drew (World.setCell (World.setCell W3 ⟨ba, 0, none⟩ (.int .i64 (i : Int))) ⟨ba, 1, none⟩ (.bool true)))).heap[ba]? = some (.cells #[.int .i64 (i : Int), .bool true] 48) := heap_drew (heap_set (o := 1) (v := .bool true) (heap_set (o := 0) (v := .int .i64 (i : Int)) hA3))
                have hQ4 : QOwn ((World.drew (World.setCell (World.setCell W3 ⟨ba, 0, none⟩ (.int .i64 (i : Int))) ⟨ba, 1, none⟩ (.bool true)))) W.heap.size 3 u8 (l2.drop (z + 1)) := (QOwn.set_other (QOwn.set_other hQ3 hqa) hqa).kept fun g hg => rfl
                generalize (World.drew (World.setCell (World.setCell W3 ⟨ba, 0, none⟩ (.int .i64 (i : Int))) ⟨ba, 1, none⟩ (.bool true))) = W4 at *
                clear hK3 hG3 hX3 hY3 hA3 hQ3 hE3 x0 x1 a0 a1 e0 e1
                have hK3 := hK4; have hG3 := hG4; have hX3 := hX4; have hY3 := hY4; have hA3 := hA4; have hQ3 := hQ4
                clear hK4 hG4 hX4 hY4 hA4 hQ4
                obtain ⟨sb, hsb⟩ : ∃ sb, c2[a]? = some sb := ⟨_, List.getElem?_eq_getElem (by rw [hB2.clen]; omega)⟩
                obtain ⟨ob, hob⟩ : ∃ ob, b2[a]? = some ob := ⟨_, List.getElem?_eq_getElem (by rw [hB2.blen]; omega)⟩
                have hcf := cutF_at hsb
                have hBB := Lib.hid hB2
                have hob2 := Lib.hid hob
                have m0 : W4.cell? ⟨gx, a, none⟩ = some (.bool sb) := cell_vec hX3 hsb
                have a0 := cell_heap (o := 0) hA3 rfl
                have a1 := cell_heap (o := 1) hA3 rfl
                have g0 := cell_heap (o := 0) hG3 rfl
                have g1 := cell_heap (o := 1) hG3 rfl
                have g2 := cell_heap (o := 2) hG3 rfl
                have g3 := cell_heap (o := 3) hG3 rfl
                have hrm := Lib.hid (fun w' (h : Eds w' (.slice (some ⟨b0, o, none⟩) es.length cap) es) (hu : Vec iV w' (.slice qa f.length qc) f) => room_any N s t _ _ es f (i, true) w' h hu hlt hGG.out.2.2.2.2.2 hFF.out)
                dsimp only at hrm
                have hEA : edAt es i = ((a : Int), (p : Int), e3) := edAt_some he
                have hEE := Lib.hid hEA
                have hHE := Lib.hid he
                clear hEA hob he hB2
                generalize hR : roomA es f (i, true) = R at *
                have hRR := Lib.hid hR
                have hCF := Lib.hid hcf
                clear hR hcf hsb
                cases sb
                · rcases Int.lt_or_le 0 R with hpos | hneg
                  · go_wp2_with (go_at_call 13; refine (hrm.out _ (hES.out.below hK3) (hUS.out.below hK3)).mono ?_; rintro e w5 ⟨rfl, hb5⟩; have hG5 := heap_old hb5 hG3; have hX5 := heap_old hb5 hX3; have hY5 := heap_old hb5 hY3; have hA5 := heap_old hb5 hA3; have hQ5 := hQ3.below hb5; have hK5 := Below.next hK3 (Nat.le_refl _) hb5; have m5 : w5.cell? ⟨gx, a, none⟩ = some (.bool false) := (hb5.cell (p := ⟨gx, a, none⟩) (Array.getElem?_eq_some_iff.1 hX3).1).trans m0; clear hb5 m0 a0 a1 g0 g1 g2 g3; have a0 := cell_heap (o := 0) hA5 rfl; have a1 := cell_heap (o := 1) hA5 rfl; have g0 := cell_heap (o := 0) hG5 rfl; have g1 := cell_heap (o := 1) hG5 rfl; have g2 := cell_heap (o := 2) hG5 rfl; have g3 := cell_heap (o := 3) hG5 rfl)
                    have f5 := frozen_heap (o := a) hX5
                    have y50 : w5.cell? ⟨gy, a * 2, none⟩ = some (.int .i64 (ob.1 : Int)) := cell_heap hY5 (by rw [List.getElem?_toArray]; exact flat_at cA_len b2 a ob 0 _ hob2.out rfl)
                    have y51 : w5.cell? ⟨gy, a * 2 + 1, none⟩ = some (.bool ob.2) := cell_heap hY5 (by rw [List.getElem?_toArray]; exact flat_at cA_len b2 a ob 1 _ hob2.out rfl)
                    have f50 := frozen_heap (o := a * 2) hY5
                    have f51 := frozen_heap (o := a * 2 + 1) hY5
                    have hbl : a < b2.length := by rw [hBB.out.blen]; omega
                    refine wp_abs (fun q0 a' W6 => a' = (((((((q0.put (some 71) (.slice (some ⟨gx, 0, none⟩) N N)).put (some 72) (.int .i64 (a : Int))).put (some 73) (.slice (some ⟨gy, 0, none⟩) N N)).put (some 74) (.int .i64 (a : Int))).put (some 75) (.agg #[.int .i64 (i : Int), .bool true])).put (some 76) (.pointer (some ⟨gx, a, none⟩))).put (some 77) (.pointer (some ⟨gy, a * 2, none⟩))) ∧ Below w.heap.size w W6 ∧ W6.heap[gx]? = some (.cells ((c2.set a true).map bV).toArray 4) ∧ W6.heap[gy]? = some (.cells ((b2.set a (i, true)).flatMap cA).toArray 48) ∧ W6.heap[w.heap.size]? = some ((.cells #[.int .i64 (N : Int), .int .i64 (s : Int), .int .i64 t, .slice (some ⟨b0, o, none⟩) es.length cap] 24)) ∧ QOwn W6 W.heap.size 3 u8 (l2.drop (z + 1))) ?_ ?_
                    · first | go_region_with (fail) | fail
                      all_goals
                        refine ⟨?_, ?_, ?_, ?_, ?_, ?_⟩
                        · first | (simp only [Act.put, List.setIfInBounds_toArray, List.set_cons_succ, List.set_cons_zero]; done) | (simp only [Act.put, List.setIfInBounds_toArray, List.set_cons_succ, List.set_cons_zero]; rfl)
                        · exact (Below.drew (Below.setCell (Below.setCell (Below.setCell hK5 (by first | exact Nat.le_of_lt hwx | exact Nat.le_of_lt hwy) _) (by first | exact Nat.le_of_lt hwx | exact Nat.le_of_lt hwy) _) (by first | exact Nat.le_of_lt hwx | exact Nat.le_of_lt hwy) _))
                        · first | exact heap_drew (heap_set_other (heap_set_other (heap_setV (f := bV) hX5) hxy) hxy) | exact heap_drew (heap_setV (f := bV) (heap_set_other (heap_set_other hX5 hxy) hxy))
                        · first | exact heap_drew (heap_arcs (a := (i, true)) (heap_set_other hY5 (Ne.symm hxy)) hbl) | exact heap_drew (heap_set_other (heap_arcs (a := (i, true)) hY5 hbl) (Ne.symm hxy))
                        · exact heap_drew (heap_set_other (heap_set_other (heap_set_other hG5 (by omega)) (by omega)) (by omega))
                        · exact ((QOwn.set_other (QOwn.set_other (QOwn.set_other hQ5 (by first | exact hqx | exact hqy)) (by first | exact hqx | exact hqy)) (by first | exact hqx | exact hqy)).kept fun g hg => rfl)
                    · rintro a' W6 ⟨rfl, hK6, hX6, hY6, hG6, hQ6⟩
                      clear a0 a1 g0 g1 g2 g3 f5 y50 y51 f50 f51 m5 hG5 hX5 hY5 hA5 hQ5 hK5
                      simp only [Act.put, List.setIfInBounds_toArray, List.set_cons_succ, List.set_cons_zero]
                      have hll : (l2.drop (z + 1)).length ≤ 1000 := by have := hBB.out.cnt; rw [List.length_drop]; omega
                      have hWs := (Array.getElem?_eq_some_iff.1 hX6).1
                      have hWt : W.heap.size ≤ W6.heap.size := by obtain ⟨g, _, q2, q3⟩ := hQ6.lt; omega
                      go_wp2_with (at_builtin; refine wpList_append_q rfl _ _ 57 rfl W.heap.size 3 i3 _ Try.underlying57 hi3 hz3 hs3 hy3 rfl _ _ rfl (hQ6.below (Below.alloc (Below.refl _ _) (Nat.le_refl _) (.cells #[.int .i64 (a : Int)] 3))) _ _ (a : Int) rfl (cell_heap (heap_new W6 (.cells #[.int .i64 (a : Int)] 3) rfl) rfl) hll (by simp; omega) ?_; intro v' w7 hq7 hg7 hat7)
                      have hg8 : (W6.alloc (.cells #[.int .i64 (a : Int)] 3)).grownBy w7 u8.ownBlock := hg7
                      obtain ⟨ub, hub, hub1, hub2⟩ := hQ6.lt
                      have hne := fun k (hk : k < W.heap.size) => show some k ≠ u8.ownBlock from fun q => by rw [hub] at q; have := Option.some.inj q; omega
                      have hsz : (W6.alloc (.cells #[.int .i64 (a : Int)] 3)).heap.size = W6.heap.size + 1 := by simp
                      have hX7 := (hg8.block gx (by omega) (hne gx hWx)).trans (heap_alloc (X := .cells #[.int .i64 (a : Int)] 3) hX6)
                      have hY7 := (hg8.block gy (by omega) (hne gy hWy)).trans (heap_alloc (X := .cells #[.int .i64 (a : Int)] 3) hY6)
                      have hG7 := (hg8.block w.heap.size (by omega) (hne _ hWG)).trans (heap_alloc (X := .cells #[.int .i64 (a : Int)] 3) hG6)
                      have hK7 : Below w.heap.size w w7 := Below.grown (hK6.alloc hK6.size (.cells #[.int .i64 (a : Int)] 3)) hg8 (by omega) (fun q hq => by rw [hub] at hq; have := Option.some.inj hq; omega)
                      have hpush := hBB.out.push (v := (a : Int)) (a := (i, true)) (by omega) (by omega) hCF.out hlt (by dsimp only; rw [hEE.out]; rfl) (by dsimp only; rw [hEE.out]; exact List.mem_of_getElem? hL2) (by rw [hRR.out]; exact hpos)
                      rw [Int.toNat_natCast] at hpush
                      obtain ⟨hB8, hcn⟩ := hpush
                      have hz1 : z < l2.length := (List.getElem?_eq_some_iff.1 hL2).1
                      refine ⟨⟨i + 1, _, _, l2 ++ [(a : Int)], hlt, by simp, hB8, shutAt_next (shutAt_mono hSh) hHE.out ?_ ?_, by rw [List.getElem?_append_left hz1]; exact hL2, hK7, hG7, hX7, hY7, by rw [List.drop_append_of_le_length (by omega)]; exact hq7, by rw [List.length_append, List.length_singleton]; omega⟩, by simpa [intOf] using hnx⟩
                      · intro q; dsimp only at q; omega
                      · intro _ _; exact List.mem_append_right _ (List.mem_singleton.2 rfl)
                  · go_wp2_with (go_at_call 13; refine (hrm.out _ (hES.out.below hK3) (hUS.out.below hK3)).mono ?_; rintro e w5 ⟨rfl, hb5⟩; have hG5 := heap_old hb5 hG3; have hX5 := heap_old hb5 hX3; have hY5 := heap_old hb5 hY3; have hQ5 := hQ3.below hb5; have hK5 := Below.next hK3 (Nat.le_refl _) hb5)
                    refine ⟨⟨i + 1, c2, b2, l2, hlt, by simp, hBB.out, shutAt_next hSh hHE.out ?_ ?_, hL2, hK5, hG5, hX5, hY5, hQ5, hM⟩, by simpa [intOf] using hnx⟩
                    · intro q; dsimp only at q; omega
                    · intro _ q; rw [hRR.out] at q; omega
                · go_wp2_with fail
                  refine ⟨⟨i + 1, c2, b2, l2, hlt, by simp, hBB.out, shutAt_next hSh hHE.out ?_ ?_, hL2, hK3, hG3, hX3, hY3, hQ3, hM⟩, by simpa [intOf] using hnx⟩
                  · intro q; dsimp only at q; omega
                  · intro _ _; exact (hBB.out.seen (a : Int) (by omega) (by omega)).1 hCF.out
              · have hpm2 : ((p : Int) == (m : Int)) = false := by simpa using fun q : (p : Int) = m => hpm (by omega)
                by_cases ham : a = m
                · subst ham
                  clear hpm2
                  have hpa : ((p : Int) == (a : Int)) = false := by simp; omega
                  obtain ⟨sb, hsb⟩ : ∃ sb, c2[p]? = some sb := ⟨_, List.getElem?_eq_getElem (by rw [hB2.clen]; omega)⟩
                  obtain ⟨ob, hob⟩ : ∃ ob, b2[p]? = some ob := ⟨_, List.getElem?_eq_getElem (by rw [hB2.blen]; omega)⟩
                  have hcf := cutF_at hsb
                  have hBB := Lib.hid hB2
                  have hob2 := Lib.hid hob
                  have m0 : W3.cell? ⟨gx, p, none⟩ = some (.bool sb) := cell_vec hX3 hsb
                  have a0 := cell_heap (o := 0) hA3 rfl
                  have a1 := cell_heap (o := 1) hA3 rfl
                  have g0 := cell_heap (o := 0) hG3 rfl
                  have g1 := cell_heap (o := 1) hG3 rfl
                  have g2 := cell_heap (o := 2) hG3 rfl
                  have g3 := cell_heap (o := 3) hG3 rfl
                  have hrm := Lib.hid (fun w' (h : Eds w' (.slice (some ⟨b0, o, none⟩) es.length cap) es) (hu : Vec iV w' (.slice qa f.length qc) f) => room_any N s t _ _ es f (i, false) w' h hu hlt hGG.out.2.2.2.2.2 hFF.out)
                  dsimp only at hrm
                  have hEA : edAt es i = ((a : Int), (p : Int), e3) := edAt_some he
                  have hEE := Lib.hid hEA
                  have hHE := Lib.hid he
                  clear hEA hob he hB2
                  generalize hR : roomA es f (i, false) = R at *
                  have hRR := Lib.hid hR
                  have hCF := Lib.hid hcf
                  clear hR hcf hsb
                  cases sb
                  · rcases Int.lt_or_le 0 R with hpos | hneg
                    · go_wp2_with (go_at_call 13; refine (hrm.out _ (hES.out.below hK3) (hUS.out.below hK3)).mono ?_; rintro e w5 ⟨rfl, hb5⟩; have hG5 := heap_old hb5 hG3; have hX5 := heap_old hb5 hX3; have hY5 := heap_old hb5 hY3; have hA5 := heap_old hb5 hA3; have hQ5 := hQ3.below hb5; have hK5 := Below.next hK3 (Nat.le_refl _) hb5; have m5 : w5.cell? ⟨gx, p, none⟩ = some (.bool false) := (hb5.cell (p := ⟨gx, p, none⟩) (Array.getElem?_eq_some_iff.1 hX3).1).trans m0; clear hb5 m0 a0 a1 g0 g1 g2 g3; have a0 := cell_heap (o := 0) hA5 rfl; have a1 := cell_heap (o := 1) hA5 rfl; have g0 := cell_heap (o := 0) hG5 rfl; have g1 := cell_heap (o := 1) hG5 rfl; have g2 := cell_heap (o := 2) hG5 rfl; have g3 := cell_heap (o := 3) hG5 rfl)
                      have f5 := frozen_heap (o := p) hX5
                      have y50 : w5.cell? ⟨gy, p * 2, none⟩ = some (.int .i64 (ob.1 : Int)) := cell_heap hY5 (by rw [List.getElem?_toArray]; exact flat_at cA_len b2 p ob 0 _ hob2.out rfl)
                      have y51 : w5.cell? ⟨gy, p * 2 + 1, none⟩ = some (.bool ob.2) := cell_heap hY5 (by rw [List.getElem?_toArray]; exact flat_at cA_len b2 p ob 1 _ hob2.out rfl)
                      have f50 := frozen_heap (o := p * 2) hY5
                      have f51 := frozen_heap (o := p * 2 + 1) hY5
                      have hbl : p < b2.length := by rw [hBB.out.blen]; omega
                      refine wp_abs (fun q0 a' W6 => a' = (((((((q0.put (some 71) (.slice (some ⟨gx, 0, none⟩) N N)).put (some 72) (.int .i64 (p : Int))).put (some 73) (.slice (some ⟨gy, 0, none⟩) N N)).put (some 74) (.int .i64 (p : Int))).put (some 75) (.agg #[.int .i64 (i : Int), .bool false])).put (some 76) (.pointer (some ⟨gx, p, none⟩))).put (some 77) (.pointer (some ⟨gy, p * 2, none⟩))) ∧ Below w.heap.size w W6 ∧ W6.heap[gx]? = some (.cells ((c2.set p true).map bV).toArray 4) ∧ W6.heap[gy]? = some (.cells ((b2.set p (i, false)).flatMap cA).toArray 48) ∧ W6.heap[w.heap.size]? = some ((.cells #[.int .i64 (N : Int), .int .i64 (s : Int), .int .i64 t, .slice (some ⟨b0, o, none⟩) es.length cap] 24)) ∧ QOwn W6 W.heap.size 3 u8 (l2.drop (z + 1))) ?_ ?_
                      · first | go_region_with (fail) | fail
                        all_goals
                          refine ⟨?_, ?_, ?_, ?_, ?_, ?_⟩
                          · first | (simp only [Act.put, List.setIfInBounds_toArray, List.set_cons_succ, List.set_cons_zero]; done) | (simp only [Act.put, List.setIfInBounds_toArray, List.set_cons_succ, List.set_cons_zero]; rfl)
                          · exact (Below.drew (Below.setCell (Below.setCell (Below.setCell hK5 (by first | exact Nat.le_of_lt hwx | exact Nat.le_of_lt hwy) _) (by first | exact Nat.le_of_lt hwx | exact Nat.le_of_lt hwy) _) (by first | exact Nat.le_of_lt hwx | exact Nat.le_of_lt hwy) _))
                          · first | exact heap_drew (heap_set_other (heap_set_other (heap_setV (f := bV) hX5) hxy) hxy) | exact heap_drew (heap_setV (f := bV) (heap_set_other (heap_set_other hX5 hxy) hxy))
                          · first | exact heap_drew (heap_arcs (a := (i, false)) (heap_set_other hY5 (Ne.symm hxy)) hbl) | exact heap_drew (heap_set_other (heap_arcs (a := (i, false)) hY5 hbl) (Ne.symm hxy))
                          · exact heap_drew (heap_set_other (heap_set_other (heap_set_other hG5 (by omega)) (by omega)) (by omega))
                          · exact ((QOwn.set_other (QOwn.set_other (QOwn.set_other hQ5 (by first | exact hqx | exact hqy)) (by first | exact hqx | exact hqy)) (by first | exact hqx | exact hqy)).kept fun g hg => rfl)
                      · rintro a' W6 ⟨rfl, hK6, hX6, hY6, hG6, hQ6⟩
                        clear a0 a1 g0 g1 g2 g3 f5 y50 y51 f50 f51 m5 hG5 hX5 hY5 hA5 hQ5 hK5
                        simp only [Act.put, List.setIfInBounds_toArray, List.set_cons_succ, List.set_cons_zero]
                        have hll : (l2.drop (z + 1)).length ≤ 1000 := by have := hBB.out.cnt; rw [List.length_drop]; omega
                        have hWs := (Array.getElem?_eq_some_iff.1 hX6).1
                        have hWt : W.heap.size ≤ W6.heap.size := by obtain ⟨g, _, q2, q3⟩ := hQ6.lt; omega
                        go_wp2_with (at_builtin; refine wpList_append_q rfl _ _ 57 rfl W.heap.size 3 i3 _ Try.underlying57 hi3 hz3 hs3 hy3 rfl _ _ rfl (hQ6.below (Below.alloc (Below.refl _ _) (Nat.le_refl _) (.cells #[.int .i64 (p : Int)] 3))) _ _ (p : Int) rfl (cell_heap (heap_new W6 (.cells #[.int .i64 (p : Int)] 3) rfl) rfl) hll (by simp; omega) ?_; intro v' w7 hq7 hg7 hat7)
                        have hg8 : (W6.alloc (.cells #[.int .i64 (p : Int)] 3)).grownBy w7 u8.ownBlock := hg7
                        obtain ⟨ub, hub, hub1, hub2⟩ := hQ6.lt
                        have hne := fun k (hk : k < W.heap.size) => show some k ≠ u8.ownBlock from fun q => by rw [hub] at q; have := Option.some.inj q; omega
                        have hsz : (W6.alloc (.cells #[.int .i64 (p : Int)] 3)).heap.size = W6.heap.size + 1 := by simp
                        have hX7 := (hg8.block gx (by omega) (hne gx hWx)).trans (heap_alloc (X := .cells #[.int .i64 (p : Int)] 3) hX6)
                        have hY7 := (hg8.block gy (by omega) (hne gy hWy)).trans (heap_alloc (X := .cells #[.int .i64 (p : Int)] 3) hY6)
                        have hG7 := (hg8.block w.heap.size (by omega) (hne _ hWG)).trans (heap_alloc (X := .cells #[.int .i64 (p : Int)] 3) hG6)
                        have hK7 : Below w.heap.size w w7 := Below.grown (hK6.alloc hK6.size (.cells #[.int .i64 (p : Int)] 3)) hg8 (by omega) (fun q hq => by rw [hub] at hq; have := Option.some.inj hq; omega)
                        have hpush := hBB.out.push (v := (p : Int)) (a := (i, false)) (by omega) (by omega) hCF.out hlt (by dsimp only; rw [hEE.out]; rfl) (by dsimp only; rw [hEE.out]; exact List.mem_of_getElem? hL2) (by rw [hRR.out]; exact hpos)
                        rw [Int.toNat_natCast] at hpush
                        obtain ⟨hB8, hcn⟩ := hpush
                        have hz1 : z < l2.length := (List.getElem?_eq_some_iff.1 hL2).1
                        refine ⟨⟨i + 1, _, _, l2 ++ [(p : Int)], hlt, by simp, hB8, shutAt_next (shutAt_mono hSh) hHE.out ?_ ?_, by rw [List.getElem?_append_left hz1]; exact hL2, hK7, hG7, hX7, hY7, by rw [List.drop_append_of_le_length (by omega)]; exact hq7, by rw [List.length_append, List.length_singleton]; omega⟩, by simpa [intOf] using hnx⟩
                        · intro _ _; exact List.mem_append_right _ (List.mem_singleton.2 rfl)
                        · intro q; dsimp only at q; omega
                    · go_wp2_with (go_at_call 13; refine (hrm.out _ (hES.out.below hK3) (hUS.out.below hK3)).mono ?_; rintro e w5 ⟨rfl, hb5⟩; have hG5 := heap_old hb5 hG3; have hX5 := heap_old hb5 hX3; have hY5 := heap_old hb5 hY3; have hQ5 := hQ3.below hb5; have hK5 := Below.next hK3 (Nat.le_refl _) hb5)
                      refine ⟨⟨i + 1, c2, b2, l2, hlt, by simp, hBB.out, shutAt_next hSh hHE.out ?_ ?_, hL2, hK5, hG5, hX5, hY5, hQ5, hM⟩, by simpa [intOf] using hnx⟩
                      · intro _ q; rw [hRR.out] at q; omega
                      · intro q; dsimp only at q; omega
                  · go_wp2_with fail
                    refine ⟨⟨i + 1, c2, b2, l2, hlt, by simp, hBB.out, shutAt_next hSh hHE.out ?_ ?_, hL2, hK3, hG3, hX3, hY3, hQ3, hM⟩, by simpa [intOf] using hnx⟩
                    · intro _ _; exact (hBB.out.seen (p : Int) (by omega) (by omega)).1 hCF.out
                    · intro q; dsimp only at q; omega
                · have ham2 : ((a : Int) != (m : Int)) = true := by simp; omega
                  have hHE := Lib.hid he
                  clear he
                  go_wp2_with fail
                  refine ⟨⟨i + 1, c2, b2, l2, hlt, by simp, hB2, shutAt_next hSh hHE.out ?_ ?_, hL2, hK3, hG3, hX3, hY3, hQ3, hM⟩, by simpa [intOf] using hnx⟩
                  · intro q; dsimp only at q; omega
                  · intro q; dsimp only at q; omega
              --end
            · obtain rfl : i = es.length := by omega
              have hBB := Lib.hid (hB2.next hL2 hSh)
              have hC2 := falseN_at hX
              obtain ⟨g', oq', cq', cur', rfl, p1, p2, p3, p4, p5, p6⟩ := hQ
              have hQQ : QOwn wr W.heap.size 3 (.slice (some ⟨g', oq', none⟩) (l2.drop (z + 1)).length cq') (l2.drop (z + 1)) := ⟨g', oq', cq', cur', rfl, p1, p2, p3, p4, p5, p6⟩
              have hQH := Lib.hid hQQ
              have hln : (l2.drop (z + 1)).length = l2.length - (z + 1) := List.length_drop
              have hfin : 2 * falseN wr gx + (l2.drop (z + 1)).length < 2 * falseN w0 gx + (r.length + 1) := by rw [hC2, hMM.out, hln]; omega
              have hFI := Lib.hid hfin
              clear hfin hln hC2 hQQ p1 p2 p3 p4 p5 p6 hB2 hSh hL2
              go_wp2_with fail
              refine ⟨⟨c2, b2, l2, z + 1, hBB.out, hK, hG, hX, hY, hQH.out⟩, ?_⟩
              have := hFI.out
              rw [← hWH.out] at this
              simpa [lenV] using this
end Go.Proofs.Ytajdfcliiefjgaa
