/-
  Contract of flow.Max.
  Conditions: none.
-/
import Derived.Test.YtajdfcliiefjgaaFlowReach
namespace Go.Proofs.Ytajdfcliiefjgaa
open Go.RowKit
/-- The numbers of a block. -/
def intsOf (w : World) (g : Nat) : List Int := match w.heap[g]? with
  | some (.cells cur _ _) => cur.toList.map intOf
  | _ => []
theorem intsOf_at {w : World} {g : Nat} {t : TypeId} {fr : Nat × Nat} {f : List Int} (h : w.heap[g]? = some (.cells (f.map iV).toArray t fr)) : intsOf w g = f := by
  unfold intsOf
  rw [h]
  simp only [List.map_map]
  conv => rhs; rw [← List.map_id f]
  rfl
theorem netOf_zero (v : Int) : ∀ (es : List ED) (n : Nat), netOf v es (List.replicate n 0) = 0
  | [], n => by cases n <;> simp [netOf]
  | e :: es, 0 => by simp [netOf]
  | e :: es, n + 1 => by
    simp only [List.replicate_succ, netOf, netOf_zero v es n]
    split <;> split <;> omega
theorem okFl_zero : ∀ {es : List ED}, (∀ e ∈ es, 0 ≤ e.2.2) → okFl es (List.replicate es.length 0)
  | [], _ => by simp [okFl]
  | e :: es, h => by
    simp only [List.length_cons, List.replicate_succ, okFl]
    exact ⟨⟨Int.le_refl _, h e (List.mem_cons_self ..)⟩, okFl_zero (fun e he => h e (List.mem_cons_of_mem _ he))⟩
theorem own_below' {w1 w2 : World} {base : Nat} {e : TypeId} {size : Nat} {v : Value} {n : Nat} {xs : List Value} (h : w1.ownsRow base e size v n xs) (hb : Below w1.heap.size w1 w2) : w2.ownsRow base e size v n xs := by
  obtain ⟨h1, h2⟩ := h
  refine ⟨h1, ?_⟩
  rcases h2 with h | ⟨g, cap, cur, a, b, c, d⟩
  · exact .inl h
  · exact .inr ⟨g, cap, cur, a, b, heap_old hb c, d⟩
/-- The way so far, told from the sink on. -/
structure WayR (es : List ED) (f : List Int) (l : List Int) (t : Int) (p : List AR) (d n : Int) : Prop where
  mem : n ∈ l
  way : wayP es (fun v => l.idxOf v) t p n
  room : ∀ a ∈ p, d ≤ roomA es f a
  d0 : 0 < d
  d1 : d ≤ 1073741824
  len : p.length + l.idxOf n ≤ l.length
theorem WayR.next {es : List ED} {f l : List Int} {t : Int} {p : List AR} {d n d' n' : Int} {a : AR} (h : WayR es f l t p d n) (h1 : a.1 < es.length) (h2 : hdA (edAt es a.1) a.2 = n) (h3 : tlA (edAt es a.1) a.2 = n') (h4 : n' ∈ l) (h5 : l.idxOf n' < l.idxOf n) (h6 : d' ≤ d) (h7 : d' ≤ roomA es f a) (h8 : 0 < d') : WayR es f l t (p ++ [a]) d' n' := by
  subst h3
  refine ⟨h4, wayP_snoc h.way h1 h2 h5, ?_, h8, by have := h.d1; omega, by have := h.len; rw [List.length_append, List.length_singleton]; omega⟩
  intro x hx
  rcases List.mem_append.1 hx with hx | hx
  · have := h.room x hx; omega
  · simp at hx; subst hx; exact h7
def WayRel (es : List ED) (f l : List Int) (t : Int) (B : Nat) (w3 : World) (e : TypeId) (q x y : Value) (wr : World) : Prop :=
  ∃ (p : List AR) (d n : Int), wr.ownsRow B e 2 q p.length (p.flatMap cA) ∧ x = .int .i64 d ∧ y = .int .i64 n ∧ WayR es f l t p d n ∧ Below B w3 wr
theorem own_arc {w : World} {B cap g k : Nat} {e : TypeId} {p : List AR} {a : AR} (h : w.ownsRow B e 2 (.slice (some ⟨g, 0, none⟩) p.length cap) p.length (p.flatMap cA)) (ha : p[k]? = some a) : w.cell? ⟨g, k * 2, none⟩ = some (.int .i64 (a.1 : Int)) ∧ w.cell? ⟨g, k * 2 + 1, none⟩ = some (.bool a.2) := by
  have hk := (List.getElem?_eq_some_iff.1 ha).1
  have e0 := World.ownsRow.cellAt h (k * 2) (show k * 2 < p.length * 2 by omega)
  have e1 := World.ownsRow.cellAt h (k * 2 + 1) (show k * 2 + 1 < p.length * 2 by omega)
  have f0 := flat_at cA_len p k a 0 _ ha rfl
  have f1 := flat_at cA_len p k a 1 _ ha rfl
  rw [Nat.add_zero] at f0
  exact ⟨e0.trans f0, e1.trans f1⟩
theorem World.ownsRow.form' {w : World} {base size n : Nat} {e : TypeId} {v : Value} {xs : List Value} (h : w.ownsRow base e size v n xs) (hn : 0 < n) : ∃ g cap, v = .slice (some ⟨g, 0, none⟩) n cap ∧ base ≤ g ∧ g < w.heap.size := by
  rcases h.2 with ⟨_, h0⟩ | ⟨g, cap, cur, rfl, h1, h2, _⟩
  · omega
  · exact ⟨g, cap, rfl, h1, (Array.getElem?_eq_some_iff.1 h2).1⟩
theorem own_otherA {w : World} {base k o : Nat} {e : TypeId} {size : Nat} {v u : Value} {n : Nat} {xs : List Value} (h : w.ownsRow base e size v n xs) (hk : k < base) : (w.setCell ⟨k, o, none⟩ u).ownsRow base e size v n xs := by
  obtain ⟨h1, h2⟩ := h
  refine ⟨h1, ?_⟩
  rcases h2 with h | ⟨g, cap, cur, a, b, c, d⟩
  · exact .inl h
  · exact .inr ⟨g, cap, cur, a, b, (Below.heap_setCell w _ u g (by show g ≠ k; omega)).trans c, d⟩
/-- What Max has found: a greatest flow and the cut that shows it. -/
structure MaxP (N : Nat) (s t : Int) (es : List ED) (f : List Int) (c : List Bool) : Prop where
  flow : flowP N s t es f
  clen : c.length = N
  cs : cutF c s = true
  ct : cutF c t = false
  shut : shutP (cutF c) es f
theorem okG_in {N : Nat} {s t : Int} {es : List ED} (h : okG N s t es) : inN N es := fun e he => ⟨(h.2.2.2.2.2 e he).1, (h.2.2.2.2.2 e he).2.1⟩
/-- The value of a flow is at most the capacity out of the source. -/
theorem flow_top {N : Nat} {s t : Int} {es : List ED} {f : List Int} (h : okG N s t es) (hF : flowP N s t es f) : netOf s es f ≤ 644245094400 := by
  have := flow_le (c := fun v => decide (v = s)) hF (okG_in h) h.2.1.1 h.2.1.2 (by simp) (by simpa using fun e => h.2.2.2.1 e.symm)
  have b := cap_bd (fun v => decide (v = s)) (B := 1073741824) (by omega) (es := es) (fun e he => (h.2.2.2.2.2 e he).2.2.2)
  have := h.2.2.2.2.1
  omega
/-- The way back from a node that is reached. -/
theorem Bfs.arc {N : Nat} {s : Int} {es : List ED} {f : List Int} {c : List Bool} {b : List AR} {l : List Int} {h : Nat} (H : Bfs N s es f c b l h) {v : Int} (hv : v ∈ l) (hne : v ≠ s) : ∃ a, b[v.toNat]? = some a ∧ a.1 < es.length ∧ hdA (edAt es a.1) a.2 = v ∧ tlA (edAt es a.1) a.2 ∈ l ∧ l.idxOf (tlA (edAt es a.1) a.2) < l.idxOf v ∧ 0 < roomA es f a := H.arcs v hv hne
set_option maxRecDepth 100000 in
set_option maxHeartbeats 8000000 in
theorem max_ok (N s t : Nat) (v : Value) (es : List ED) (w : World) (h : Eds w v es) (hG : okG N s t es) :
    Calls Try.prog 6 #[.agg #[.int .i64 (N : Int), .int .i64 (s : Int), .int .i64 (t : Int), v]] w fun e w' => ∃ u1 u2 f c, e = .returned (.tuple #[u1, u2, .int .i64 0]) ∧ Vec iV w' u1 f ∧ Vec bV w' u2 c ∧ MaxP N s t es f c ∧ Below w.heap.size w w' := by
  have hN64 : N ≤ 64 := by have := hG.1; omega
  have hl6 := hG.2.2.2.2.1
  obtain ⟨i2, hi2, hz2, hs2, hy2⟩ := info_parts (P := Try.prog) (e := 48) (z := .agg #[.int .i64 0, .bool false]) (size := 2) (bytes := 16) (by kernel_rfl)
  have hmk := run_make_row' (P := Try.prog) 28 2 (.int .i64 0) 8 Try.underlying28 (by kernel_rfl) rfl .i64 .i64 es.length (by omega) (by omega)
  rw [made_zero] at hmk
  have hck := Lib.hid (fun w' (h : Eds w' v es) => by have := gcheck_any N s t v es w' h; rwa [(chkG_iff N s t es).2 hG] at this)
  have hre := Lib.hid (fun u f w' (h : Eds w' v es) (hu : Vec iV w' u f) (hF : okFl es f) => reach_any N s t v u es f w' h hu hG hF)
  have hrm := Lib.hid (fun u f a w' (h : Eds w' v es) (hu : Vec iV w' u f) (ha : a.1 < es.length) (hF : okFl es f) => room_any N s t v u es f a w' h hu ha hG.2.2.2.2.2 hF)
  have hES := Lib.hid h
  have hGG := Lib.hid hG
  have hst : s ≠ t := by have := hG.2.2.2.1; omega
  have hsN : s < N := by have := hG.2.1.2; omega
  have htN : t < N := by have := hG.2.2.1.2; omega
  obtain ⟨pa, b0, o, cap, rfl, h1, h2, h3, h4⟩ := h
  have hcap : cap ≤ 9223372036854775807 := by unfold maxLen at h3; omega
  have hH4 := Lib.hid h4
  clear hG h4
  go_enter Try.func6, Try.ntmps6
  go_wp2_with (first
    | (go_at_call 5; refine (hck.out _ (hES.out.below (by repeat (first | with_reducible exact Below.refl _ _ | with_reducible assumption | with_reducible refine Below.drew ?_ | with_reducible refine Below.setCell ?_ (by first | omega | (simp; omega) | simp) _ | with_reducible refine Below.alloc ?_ (by first | omega | (simp; omega) | simp) _ | with_reducible refine Below.trans ?_ (Below.mono (by with_reducible assumption) (by first | omega | (simp; omega) | simp)))))).mono ?_; rintro e w1 ⟨rfl, hb1⟩; have hG := heap_old hb1 (heap_new w (.cells #[.int .i64 (N : Int), .int .i64 (s : Int), .int .i64 (t : Int), .slice pa es.length cap] 24) rfl); have hK := Below.next1 (Below.refl w.heap.size w) (Nat.le_refl _) hb1; have hsw := hb1.size; clear hb1; (have g0 := cell_heap (o := 0) hG rfl; have g1 := cell_heap (o := 1) hG rfl; have g2 := cell_heap (o := 2) hG rfl; have g3 := cell_heap (o := 3) hG rfl)))
  (clear g0 g1 g2 g3)
  have hsw1 : w.heap.size < w1.heap.size := by simp at hsw; omega
  have hK1 : Below w.heap.size w (w1.alloc (.cells (Array.replicate es.length (.int .i64 0)) 2)) := hK.alloc hK.size _
  have hG1 := heap_alloc (X := .cells (Array.replicate es.length (.int .i64 0)) 2) hG
  have hF1 : (w1.alloc (.cells (Array.replicate es.length (.int .i64 0)) 2)).heap[w1.heap.size]? = some (.cells ((List.replicate es.length 0).map iV).toArray 2) := by
    rw [← made_vec]
    exact heap_new w1 _ rfl
  have hfl : flowP N s t es (List.replicate es.length 0) := ⟨okFl_zero (fun e he => (hGG.out.2.2.2.2.2 e he).2.2.2.1), fun v _ _ _ _ => netOf_zero v es _⟩
  generalize World.alloc w1 _ = W at *
  generalize w1.heap.size = gf at *
  clear hsw hG hK
  go_loopw [] (fun wr => ∃ f, flowP N s t es f ∧ Below w.heap.size w wr ∧ wr.heap[w.heap.size]? = some (.cells #[.int .i64 (N : Int), .int .i64 (s : Int), .int .i64 (t : Int), .slice pa es.length cap] 24) ∧ wr.heap[gf]? = some (.cells (f.map iV).toArray 2)) (fun wr => (644245094400 - netOf s es (intsOf wr gf)).toNat)
  case atStart => exact ⟨_, hfl, hK1, hG1, hF1⟩
  case round =>
    obtain ⟨f, hfl, hK, hG, hF⟩ := hrel
    have hfL := okFl_len hfl.1
    have hFL := Lib.hid hfL
    have hFF := Lib.hid hfl
    have hVf : Vec iV wr (.slice (some ⟨gf, 0, none⟩) es.length es.length) f := vec_here hF hfL (by unfold maxLen; omega)
    have hVV := Lib.hid hVf
    have hgl := (Array.getElem?_eq_some_iff.1 hF).1
    have hgG := (Array.getElem?_eq_some_iff.1 hG).1
    have hWI := Lib.hid (intsOf_at hF)
    clear hfl hfL hVf
    (have g0 := cell_heap (o := 0) hG rfl; have g1 := cell_heap (o := 1) hG rfl; have g2 := cell_heap (o := 2) hG rfl; have g3 := cell_heap (o := 3) hG rfl)
    go_wp2_with (first
      | (go_at_call 12; refine (hre.out _ _ _ (hES.out.below hK) hVV.out hFF.out.1).mono ?_; rintro e w3 ⟨u1, u2, c, b, l, rfl, hu1, hu2, hB, hb3⟩; have hU1 := Lib.hid hu1; have hU2 := Lib.hid hu2; obtain ⟨ca, cb, co, cc, hv1, r1, r2, r3, r4⟩ := hu1; rw [hB.clen] at hv1 r1 r2; subst hv1; obtain ⟨da, db, dp, dc, hv2, d1, d2, d3, d4⟩ := hu2; rw [hB.blen] at hv2 d1 d2; subst hv2; have hBB := Lib.hid hB; have hR4 := Lib.hid r4; have hD4 := Lib.hid d4; obtain ⟨ct, hct⟩ : ∃ ct, c[t]? = some ct := ⟨_, List.getElem?_eq_getElem (by rw [hB.clen]; exact htN)⟩; obtain rfl := r1 (by omega); obtain rfl := d1 (by omega); have k0 : w3.cell? ⟨cb, co + t, none⟩ = some (.bool ct) := r4 t _ hct; have hCT := Lib.hid hct; have hG3 := heap_old hb3 hG; have hF3 := heap_old hb3 hF; have hK3 := Below.next hK (Nat.le_refl _) hb3; have hs3 := hb3.size; clear hb3 hB r4 d4 hct g0 g1 g2 g3; have g0 := cell_heap (o := 0) hG3 rfl; have g1 := cell_heap (o := 1) hG3 rfl; have g2 := cell_heap (o := 2) hG3 rfl; have g3 := cell_heap (o := 3) hG3 rfl))
    · have hc0 : ct = false := by first | assumption | (have := ‹(!ct) = true›; simpa using this)
      refine bodyPost_ret (v := .tuple #[.slice (some ⟨gf, 0, none⟩) es.length es.length, .slice (some ⟨cb, co, none⟩) N cc, .int .i64 0]) (by simp only [results, Try.results6]; go_simp) rfl ?_
      refine ⟨_, _, f, c, rfl, vec_here hF3 hFL.out (by unfold maxLen; omega), ?_, ⟨hFF.out, hBB.out.clen, ?_, ?_, hBB.out.done (okG_in hGG.out)⟩, hK3⟩
      · exact hU1.out
      · exact (hBB.out.seen _ (by omega) (by omega)).2 hBB.out.src
      · rw [cutF_at hCT.out, hc0]
    · have hc0 : ct = true := by first | assumption | (have := ‹(!ct) = false›; simpa using this)
      have htl : (t : Int) ∈ l := (hBB.out.seen _ (by omega) (by omega)).1 (by rw [cutF_at hCT.out, hc0])
      have hTL := Lib.hid htl
      clear htl hc0 k0 g0 g1 g2 g3
      have hgw : gf < w3.heap.size := (Array.getElem?_eq_some_iff.1 hF3).1
      generalize hWW : wr = w0 at *
      have hWH := Lib.hid hWW
      clear hWW hG hF hK hs3
      go_loopw [9, 10, 11] (fun q x y wr => WayRel es f l (t : Int) w3.heap.size w3 48 q x y wr) (fun _ _ y _ => l.idxOf (intOf y))
      case atStart => exact ⟨[], 1073741824, (t : Int), World.ownsRow_nil _ _ _ _, rfl, rfl, ⟨hTL.out, rfl, fun a ha => by simp at ha, by omega, by omega, by have := List.idxOf_lt_length_of_mem hTL.out; simp; omega⟩, Below.refl _ _⟩
      case round =>
        obtain ⟨p, d, n, hO, rfl, rfl, hWR, hB3⟩ := hrel
        have hn := hWR.mem
        have hpl := hWR.len
        have hWH2 := Lib.hid hWR
        have hd0 := hWR.d0
        have hd1 := hWR.d1
        have hG := heap_old hB3 hG3
        have hF := heap_old hB3 hF3
        have hK : Below w.heap.size w wr := Below.trans hK3 (hB3.mono hK3.size)
        have hNN := hBB.out.inr n hn
        obtain ⟨m, rfl⟩ := Int.eq_ofNat_of_zero_le hNN.1
        have hmN : m < N := by omega
        by_cases hms : m = s
        · have hms' := hms.symm
          subst hms'
          have hp64 : p.length ≤ 64 := by have := hBB.out.cnt; omega
          have hpp : 0 < p.length := by
            rcases Nat.eq_zero_or_pos p.length with q | q
            · have := hWR.way
              rw [List.length_eq_zero_iff.1 q] at this
              exact absurd (show (t : Int) = (s : Int) from this) (by omega)
            · exact q
          have hnd := wayP_nodup hWR.way
          have hok : ∀ k, okFl es (goW d f (p.take k)) := fun k => goW_ok (by omega) hFF.out.1 (by rw [List.map_take]; exact hnd.sublist (List.take_sublist _ _)) (fun a ha => ⟨(wayP_le hWR.way (List.mem_of_mem_take ha)).1, hWR.room a (List.mem_of_mem_take ha)⟩)
          have hOK := Lib.hid hok
          obtain ⟨gq, cq, rfl, hgq, hgq2⟩ := World.ownsRow.form' hO hpp
          clear hn hNN hWR hnd hok
          have hgf : gf < wr.heap.size := (Array.getElem?_eq_some_iff.1 hF).1
          have hgGf : w.heap.size < gf := hsw1
          (have g0 := cell_heap (o := 0) hG rfl; have g1 := cell_heap (o := 1) hG rfl; have g2 := cell_heap (o := 2) hG rfl; have g3 := cell_heap (o := 3) hG rfl)
          go_wp2_with fail
          clear g0 g1 g2 g3
          go_loopw [76] (fun x wr => ∃ k : Nat, k ≤ p.length ∧ x = .int .i64 k ∧ Below w.heap.size w wr ∧ wr.heap[w.heap.size]? = some (.cells #[.int .i64 (N : Int), .int .i64 (s : Int), .int .i64 (t : Int), .slice pa es.length cap] 24) ∧ wr.heap[gf]? = some (.cells ((goW d f (p.take k)).map iV).toArray 2) ∧ wr.ownsRow w3.heap.size 48 2 (.slice (some ⟨gq, 0, none⟩) p.length cq) p.length (p.flatMap cA)) (fun x _ => p.length - (intOf x).toNat)
          case atStart => exact ⟨0, by omega, rfl, hK, hG, by simpa [goW] using hF, hO⟩
          case round =>
            obtain ⟨k, hk, rfl, hK, hG, hF, hO⟩ := hrel
            rcases Nat.lt_or_ge k p.length with hlt | hge
            · obtain ⟨⟨ar, ab⟩, ha⟩ : ∃ a, p[k]? = some a := ⟨_, List.getElem?_eq_getElem hlt⟩
              obtain ⟨c0, c1⟩ := own_arc hO ha
              have hle := (wayP_le hWH2.out.way (List.mem_of_getElem? ha)).1
              dsimp only at c0 c1 hle
              obtain ⟨e, he⟩ : ∃ e, es[ar]? = some e := ⟨_, List.getElem?_eq_getElem hle⟩
              obtain ⟨x, hx, x0, x1⟩ := okFl_get (hOK.out k) he
              obtain ⟨y, hy, y0, y1⟩ := okFl_get (hOK.out (k + 1)) he
              have hcp := (hGG.out.2.2.2.2.2 e (List.mem_of_getElem? he)).2.2.2.2
              have hsn : goW d f (p.take (k + 1)) = goA d (goW d f (p.take k)) (ar, ab) := by rw [List.take_add_one, ha]; exact goW_snoc d f _ _
              have hlc : (goW d f (p.take k)).length = es.length := okFl_len (hOK.out k)
              unfold goA at hsn
              rw [flAt_some hx] at hsn
              dsimp only at hsn
              rw [hsn, List.getElem?_set_self (by omega)] at hy
              have hyv := Option.some.inj hy
              have f0 : wr.cell? ⟨gf, ar, none⟩ = some (.int .i64 x) := cell_vec hF hx
              have ff := frozen_heap (o := ar) hF
              have hnx : p.length - (k + 1) < p.length - k := by omega
              have hgq3 := (hO.lt gq rfl).1
              generalize goW d f (p.take k) = L at *
              have hgw2 : gf < wr.heap.size := (Array.getElem?_eq_some_iff.1 hF).1
              cases ab
              · simp only [Bool.false_eq_true, if_false] at hyv hsn
                have hSN := Lib.hid hsn
                have v1 : x + d ≤ 9223372036854775807 := by omega
                have v2 : -9223372036854775808 ≤ x + d := by omega
                clear hy hx he ha hyv hsn
                go_wp2_with fail
                refine ⟨⟨k + 1, hlt, by simp, ?_, ?_, ?_, ?_⟩, by simpa [intOf] using hnx⟩
                · exact Below.alloc (Below.setCell hK (Nat.le_of_lt hgGf) _ (p := ⟨gf, ar, none⟩)) (Below.setCell hK (Nat.le_of_lt hgGf) _ (p := ⟨gf, ar, none⟩)).size _
                · exact heap_alloc (heap_set_other hG (by omega))
                · rw [hSN.out]; exact heap_alloc (heap_setV (f := iV) hF)
                · exact (own_otherA hO hgw).alloc _
              · simp only [if_true] at hyv hsn
                have hSN := Lib.hid hsn
                have v1 : x - d ≤ 9223372036854775807 := by omega
                have v2 : -9223372036854775808 ≤ x - d := by omega
                clear hy hx he ha hyv hsn
                go_wp2_with fail
                refine ⟨⟨k + 1, hlt, by simp, ?_, ?_, ?_, ?_⟩, by simpa [intOf] using hnx⟩
                · exact Below.alloc (Below.setCell hK (Nat.le_of_lt hgGf) _ (p := ⟨gf, ar, none⟩)) (Below.setCell hK (Nat.le_of_lt hgGf) _ (p := ⟨gf, ar, none⟩)).size _
                · exact heap_alloc (heap_set_other hG (by omega))
                · rw [hSN.out]; exact heap_alloc (heap_setV (f := iV) hF)
                · exact (own_otherA hO hgw).alloc _
            · obtain rfl : k = p.length := by omega
              rw [List.take_length] at hF
              have hnx := flow_next hFF.out hWH2.out.way (fun a ha => hWH2.out.room a ha) (by omega) (by omega)
              have htp := flow_top hGG.out hnx.1
              have hms : (644245094400 - netOf (s : Int) es (intsOf wr gf)).toNat < (644245094400 - netOf (s : Int) es (intsOf w0 gf)).toNat := by
                rw [intsOf_at hF, hWI.out]
                have := hnx.2
                omega
              have hMS := Lib.hid hms
              have hNX := Lib.hid hnx.1
              clear hms hnx htp
              go_wp2_with fail
              refine ⟨⟨_, hNX.out, hK, hG, hF⟩, ?_⟩
              have := hMS.out
              rw [← hWH.out] at this
              exact this
        · have hms2 : ((m : Int) != (s : Int)) = true := by simp; omega
          obtain ⟨⟨ar, ab⟩, q1, q2, q3, q4, q5, q6⟩ := hBB.out.arc hn (by omega)
          rw [Int.toNat_natCast] at q1
          have c0 : w3.cell? ⟨db, dp + m * 2, none⟩ = some (.int .i64 (ar : Int)) := hD4.out m _ q1 0 _ rfl
          have c1 : w3.cell? ⟨db, dp + m * 2 + 1, none⟩ = some (.bool ab) := hD4.out m _ q1 1 _ rfl
          replace c0 := ((after hB3).1 _ _ (by rw [c0]; rfl)).trans c0
          replace c1 := ((after hB3).1 _ _ (by rw [c1]; rfl)).trans c1
          dsimp only at q2 q3 q4 q5
          obtain ⟨e, he⟩ : ∃ e, es[ar]? = some e := ⟨_, List.getElem?_eq_getElem q2⟩
          obtain rfl := h1 (by omega)
          have hEA := edAt_some he
          rw [hEA] at q3 q4 q5
          obtain ⟨x0, x1, x2⟩ := cB_at (hH4.out ar e he)
          have hHD := Lib.hid q3
          have hsz3 : w3.heap.size ≤ wr.heap.size := hB3.size
          have hTN := Lib.hid q4
          have hID := Lib.hid q5
          have hPO := Lib.hid q6
          have hEAH := Lib.hid hEA
          have hlc : l.length ≤ 64 := by have := hBB.out.cnt; omega
          obtain ⟨e1, e2, e3⟩ := e
          dsimp only at x0 x1 x2
          have y0 := hGG.out.2.2.2.2.2 _ (List.mem_of_getElem? he)
          obtain ⟨⟨z1, z2⟩, ⟨z3, z4⟩, _⟩ := y0
          clear hn hWR hNN q1 q3 q4 q5 q6 he hEA
          (have g0 := cell_heap (o := 0) hG rfl; have g1 := cell_heap (o := 1) hG rfl; have g2 := cell_heap (o := 2) hG rfl; have g3 := cell_heap (o := 3) hG rfl)
          cases ab
          · go_wp2_with (first
              | (at_builtin; refine wpList_append_own _ rfl _ _ 44 rfl w3.heap.size 48 i2 (.agg #[.int .i64 0, .bool false]) 2 16 Try.underlying44 hi2 hz2 hs2 hy2 rfl (by decide) _ _ _ rfl ((hO.alloc _).alloc _) ⟨wr.heap.size + 1, 0, none⟩ 1 1 (cA (ar, false)) rfl rfl ?_ (cA_one _) (by unfold maxLen; omega) (by omega) (by simp; omega) ?_; rotate_left; intro v' w5 ho5 hg5 hnil5; have hA5 := (hg5.block wr.heap.size (by simp; omega) (fun e => by have := (hO.lt _ e.symm).2; omega)).trans (heap_alloc (heap_new wr (.cells #[.int .i64 (ar : Int), .bool false] 48) rfl)); have hB5 := Below.grown ((hB3.alloc hsz3 (.cells #[.int .i64 (ar : Int), .bool false] 48)).alloc (by simp; omega) (.cells #[.int .i64 (ar : Int), .bool false] 48)) hg5 (by simp; omega) (fun q hq => (hO.lt q hq).1); have hK5 : Below w.heap.size w w5 := Below.trans hK3 (hB5.mono hK3.size); have hG5 := heap_old hB5 hG3; have hF5 := heap_old hB5 hF3; have hV5 : Vec iV w5 (.slice (some ⟨gf, 0, none⟩) es.length es.length) f := vec_here hF5 hFL.out (by unfold maxLen; omega); clear g0 g1 g2 g3; have g0 := cell_heap (o := 0) hG5 rfl; have g1 := cell_heap (o := 1) hG5 rfl; have g2 := cell_heap (o := 2) hG5 rfl; have g3 := cell_heap (o := 3) hG5 rfl; have a0 := cell_heap (o := 0) hA5 rfl; have a1 := cell_heap (o := 1) hA5 rfl)
              | (go_at_call 13; refine (hrm.out _ f (ar, false) _ (hES.out.below hK5) hV5 q2 hFF.out.1).mono ?_; rintro e w6 ⟨rfl, hb6⟩; have ho6 := own_below' ho5 hb6; have hB6 := Below.next hB5 (Nat.le_refl _) hb6; have hK6 := Below.next hK5 (Nat.le_refl _) hb6; have hG6 := heap_old hb6 hG5; have hA6 := heap_old hb6 hA5; clear hb6 g0 g1 g2 g3 a0 a1; have g0 := cell_heap (o := 0) hG6 rfl; have g1 := cell_heap (o := 1) hG6 rfl; have g2 := cell_heap (o := 2) hG6 rfl; have g3 := cell_heap (o := 3) hG6 rfl; have a0 := cell_heap (o := 0) hA6 rfl; have a1 := cell_heap (o := 1) hA6 rfl; have k0 := ((after hK6).1 _ _ (by rw [x0]; rfl)).trans x0; have k1 := ((after hK6).1 _ _ (by rw [x1]; rfl)).trans x1))
            all_goals first
              | exact fun _ _ h => h
              | (have hnew := fun D h1 h2 h3 => hWH2.out.next (a := (ar, false)) (d' := D) (n' := e1) q2 (by dsimp only; rw [hEAH.out]; exact hHD.out) (by dsimp only; rw [hEAH.out]; rfl) hTN.out hID.out h1 h2 h3
                 have hpo := hPO.out
                 refine ⟨⟨_, _, _, ?_, rfl, rfl, rfl⟩, by exact hID.out⟩
                 refine ⟨p ++ [(ar, false)], _, _, own_push ho6, rfl, rfl, hnew _ ?_ ?_ ?_, hB6⟩ <;> omega)
          · go_wp2_with (first
              | (at_builtin; refine wpList_append_own _ rfl _ _ 44 rfl w3.heap.size 48 i2 (.agg #[.int .i64 0, .bool false]) 2 16 Try.underlying44 hi2 hz2 hs2 hy2 rfl (by decide) _ _ _ rfl ((hO.alloc _).alloc _) ⟨wr.heap.size + 1, 0, none⟩ 1 1 (cA (ar, true)) rfl rfl ?_ (cA_one _) (by unfold maxLen; omega) (by omega) (by simp; omega) ?_; rotate_left; intro v' w5 ho5 hg5 hnil5; have hA5 := (hg5.block wr.heap.size (by simp; omega) (fun e => by have := (hO.lt _ e.symm).2; omega)).trans (heap_alloc (heap_new wr (.cells #[.int .i64 (ar : Int), .bool true] 48) rfl)); have hB5 := Below.grown ((hB3.alloc hsz3 (.cells #[.int .i64 (ar : Int), .bool true] 48)).alloc (by simp; omega) (.cells #[.int .i64 (ar : Int), .bool true] 48)) hg5 (by simp; omega) (fun q hq => (hO.lt q hq).1); have hK5 : Below w.heap.size w w5 := Below.trans hK3 (hB5.mono hK3.size); have hG5 := heap_old hB5 hG3; have hF5 := heap_old hB5 hF3; have hV5 : Vec iV w5 (.slice (some ⟨gf, 0, none⟩) es.length es.length) f := vec_here hF5 hFL.out (by unfold maxLen; omega); clear g0 g1 g2 g3; have g0 := cell_heap (o := 0) hG5 rfl; have g1 := cell_heap (o := 1) hG5 rfl; have g2 := cell_heap (o := 2) hG5 rfl; have g3 := cell_heap (o := 3) hG5 rfl; have a0 := cell_heap (o := 0) hA5 rfl; have a1 := cell_heap (o := 1) hA5 rfl)
              | (go_at_call 13; refine (hrm.out _ f (ar, true) _ (hES.out.below hK5) hV5 q2 hFF.out.1).mono ?_; rintro e w6 ⟨rfl, hb6⟩; have ho6 := own_below' ho5 hb6; have hB6 := Below.next hB5 (Nat.le_refl _) hb6; have hK6 := Below.next hK5 (Nat.le_refl _) hb6; have hG6 := heap_old hb6 hG5; have hA6 := heap_old hb6 hA5; clear hb6 g0 g1 g2 g3 a0 a1; have g0 := cell_heap (o := 0) hG6 rfl; have g1 := cell_heap (o := 1) hG6 rfl; have g2 := cell_heap (o := 2) hG6 rfl; have g3 := cell_heap (o := 3) hG6 rfl; have a0 := cell_heap (o := 0) hA6 rfl; have a1 := cell_heap (o := 1) hA6 rfl; have k0 := ((after hK6).1 _ _ (by rw [x0]; rfl)).trans x0; have k1 := ((after hK6).1 _ _ (by rw [x1]; rfl)).trans x1))
            all_goals first
              | exact fun _ _ h => h
              | (have hnew := fun D h1 h2 h3 => hWH2.out.next (a := (ar, true)) (d' := D) (n' := e2) q2 (by dsimp only; rw [hEAH.out]; exact hHD.out) (by dsimp only; rw [hEAH.out]; rfl) hTN.out hID.out h1 h2 h3
                 have hpo := hPO.out
                 refine ⟨⟨_, _, _, ?_, rfl, rfl, rfl⟩, by exact hID.out⟩
                 refine ⟨p ++ [(ar, true)], _, _, own_push ho6, rfl, rfl, hnew _ ?_ ?_ ?_, hB6⟩ <;> omega)
end Go.Proofs.Ytajdfcliiefjgaa
