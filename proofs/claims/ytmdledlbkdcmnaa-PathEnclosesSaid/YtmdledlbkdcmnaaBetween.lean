/-
  Contract of the reference's between.
  Conditions: none.
-/
import Derived.Test.YtmdledlbkdcmnaaRPossible
namespace Go.Proofs.Ytmdledlbkdcmnaa
open Go.RowKit
theorem mxl_push {l : List Int} (h : l ≠ []) (y : Int) : mxl (l ++ [y]) = max (mxl l) y := by
  cases l with
  | nil => exact absurd rfl h
  | cons x l => simp only [mxl, List.cons_append, List.foldl_append, List.foldl_cons, List.foldl_nil]
theorem mnl_push {l : List Int} (h : l ≠ []) (y : Int) : mnl (l ++ [y]) = min (mnl l) y := by
  cases l with
  | nil => exact absurd rfl h
  | cons x l => simp only [mnl, List.cons_append, List.foldl_append, List.foldl_cons, List.foldl_nil]
theorem prsR_next {l : List BD} {k : Nat} {c : BD} (h : l[k]? = some c) : prsR l (k + 1) = prsR l k ++ (l.drop (k + 1)).map (fun v => (c, v)) := by
  conv => lhs; unfold prsR
  rw [h]
def pLo (s t : Int) (p : BD × BD) : Int := loP s t (loL p.1 p.2)
def pHi (s t : Int) (p : BD × BD) : Int := hiP s t (upL p.1 p.2)
set_option maxRecDepth 100000 in
set_option maxHeartbeats 4000000 in
theorem rbetw_any (v : Value) (X : List BD) (s t : Int) (w : World) (h : Bnds w v X) (hX : ∀ b ∈ X, okB b) (r : RisingB X) (hl : X.length ≤ 64) (s1 : -10 ≤ s) (s2 : s ≤ 5000) (t1 : -10 ≤ t) (t2 : t ≤ 5000) :
    Calls Try.prog 73 #[v, .int .i64 s, .int .i64 t] w fun e w' => e = .returned (.agg #[.int .i64 (loR X s t), .int .i64 (hiR X s t)]) ∧ Below w.heap.size w w' := by
  have hLR := Lib.hid (loR_ref X s t)
  have hHR := Lib.hid (hiR_ref X s t)
  obtain ⟨pa, b, o, cap, rfl, h1, h2, h3, h4⟩ := h
  have hcap : cap ≤ 9223372036854775807 := by unfold maxLen at h3; omega
  have hK := Lib.hid hX
  have hRr := Lib.hid r
  clear hX r
  generalize hA0 : loR X s t = A0 at *
  generalize hB0 : hiR X s t = B0 at *
  clear hA0 hB0
  go_enter Try.func73, Try.ntmps73
  go_wp2_with fail
  have hR := heap_alloc (X := .cells #[.int .i64 0, .int .i64 0] 34) (heap_new w (.cells #[.int .i64 0, .int .i64 0] 34) rfl)
  have hS := heap_new (w.alloc (.cells #[.int .i64 0, .int .i64 0] 34)) (.cells #[.int .i64 0, .int .i64 0] 34) (b := w.heap.size + 1) (by simp)
  have hBS : Below w.heap.size w ((w.alloc (.cells #[.int .i64 0, .int .i64 0] 34)).alloc (.cells #[.int .i64 0, .int .i64 0] 34)) := (by repeat (first | with_reducible exact Below.refl _ _ | with_reducible assumption | with_reducible refine Below.drew ?_ | with_reducible refine Below.setCell ?_ (by first | omega | (simp; omega) | simp) _ | with_reducible refine Below.alloc ?_ (by first | omega | (simp; omega) | simp) _ | with_reducible refine Below.trans ?_ (Below.mono (by with_reducible assumption) (by first | omega | (simp; omega) | simp))))
  generalize (w.alloc (.cells #[.int .i64 0, .int .i64 0] 34)).alloc (.cells #[.int .i64 0, .int .i64 0] 34) = w0 at hR hS hBS ⊢
  go_loopw [7, 17] (fun fi x wr => ∃ i : Nat, i ≤ X.length ∧ x = .int .i64 i ∧ Below w.heap.size w wr ∧ wr.heap[w.heap.size]? = some (.cells #[.int .i64 0, .int .i64 0] 34 (0, 0)) ∧ ∃ P : List (BD × BD), P = prsR X i ∧ fi = .bool P.isEmpty ∧ wr.heap[w.heap.size + 1]? = some (.cells #[.int .i64 (mxl (P.map (pLo s t))), .int .i64 (mnl (P.map (pHi s t)))] 34 (0, 0))) (fun _ x _ => X.length - (intOf x).toNat)
  case atStart => exact ⟨0, by omega, rfl, hBS, hR, [], rfl, rfl, by simpa [mxl, mnl] using hS⟩
  case round =>
    obtain ⟨i, hi, rfl, hb0, hR0, P, hPe, rfl, hS0⟩ := hrel
    have hPH := Lib.hid hPe
    clear hPe
    rcases Nat.lt_or_ge i X.length with hlt | hge
    · obtain rfl := h1 (by omega)
      obtain ⟨c, hc⟩ := some_of' (l := X) hlt
      obtain ⟨c0, c1, c2⟩ := cB_at (cells_below (h4 i c hc) hb0)
      obtain ⟨⟨ct1, ct2⟩, cl1, cl2, cl3⟩ := hK.out c (List.mem_of_getElem? hc)
      have hC := Lib.hid hc
      have hN := Lib.hid (prsR_next hc)
      have hn : X.length - (i + 1) < X.length - i := by omega
      have hsz := hb0.size
      have hltS := (Array.getElem?_eq_some_iff.1 hS0).1
      clear hc
      by_cases hend : X.length = i + 1
      · have h0 : X.length - (i + 1) = 0 := by omega
        have hP2 : prsR X (i + 1) = P := by rw [hN.out, List.drop_eq_nil_of_le (by omega), hPH.out]; simp
        have hPH2 := Lib.hid hP2
        clear hP2 hend
        by_cases hc1 : cap = i + 1
        · subst hc1
          go_wp2_with fail
          go_loopw [7, 27] (fun fi x w2 => x = .int .i64 0 ∧ fi = .bool P.isEmpty ∧ Below w.heap.size w w2 ∧ w2.heap[w.heap.size]? = some (.cells #[.int .i64 0, .int .i64 0] 34 (0, 0)) ∧ w2.heap[w.heap.size + 1]? = some (.cells #[.int .i64 (mxl (P.map (pLo s t))), .int .i64 (mnl (P.map (pHi s t)))] 34 (0, 0))) (fun _ _ _ => 0)
          case atStart => exact ⟨rfl, rfl, (by repeat (first | with_reducible exact Below.refl _ _ | with_reducible assumption | with_reducible refine Below.drew ?_ | with_reducible refine Below.setCell ?_ (by first | omega | (simp; omega) | simp) _ | with_reducible refine Below.alloc ?_ (by first | omega | (simp; omega) | simp) _ | with_reducible refine Below.trans ?_ (Below.mono (by with_reducible assumption) (by first | omega | (simp; omega) | simp)))), heap_alloc hR0, heap_alloc hS0⟩
          case round =>
            obtain ⟨rfl, rfl, hb1, hR1, hS1⟩ := hrel
            go_wp2_with fail
            exact ⟨⟨i + 1, hlt, by simp, hb1, hR1, P, hPH2.out.symm, rfl, hS1⟩, by simpa [intOf] using hn⟩
        · go_wp2_with fail
          go_loopw [7, 27] (fun fi x w2 => x = .int .i64 0 ∧ fi = .bool P.isEmpty ∧ Below w.heap.size w w2 ∧ w2.heap[w.heap.size]? = some (.cells #[.int .i64 0, .int .i64 0] 34 (0, 0)) ∧ w2.heap[w.heap.size + 1]? = some (.cells #[.int .i64 (mxl (P.map (pLo s t))), .int .i64 (mnl (P.map (pHi s t)))] 34 (0, 0))) (fun _ _ _ => 0)
          case atStart => exact ⟨rfl, rfl, (by repeat (first | with_reducible exact Below.refl _ _ | with_reducible assumption | with_reducible refine Below.drew ?_ | with_reducible refine Below.setCell ?_ (by first | omega | (simp; omega) | simp) _ | with_reducible refine Below.alloc ?_ (by first | omega | (simp; omega) | simp) _ | with_reducible refine Below.trans ?_ (Below.mono (by with_reducible assumption) (by first | omega | (simp; omega) | simp)))), heap_alloc hR0, heap_alloc hS0⟩
          case round =>
            obtain ⟨rfl, rfl, hb1, hR1, hS1⟩ := hrel
            go_wp2_with fail
            exact ⟨⟨i + 1, hlt, by simp, hb1, hR1, P, hPH2.out.symm, rfl, hS1⟩, by simpa [intOf] using hn⟩
      have hcne : ¬cap = i + 1 := by omega
      go_wp2_with fail
      have hX0 := heap_new wr (.cells #[.int .i64 c.1, .int .i64 c.2.1, .int .i64 c.2.2] 116) rfl
      have hRX := heap_alloc (X := .cells #[.int .i64 c.1, .int .i64 c.2.1, .int .i64 c.2.2] 116) hR0
      have hSX := heap_alloc (X := .cells #[.int .i64 c.1, .int .i64 c.2.1, .int .i64 c.2.2] 116) hS0
      have hBX : Below w.heap.size w (wr.alloc (.cells #[.int .i64 c.1, .int .i64 c.2.1, .int .i64 c.2.2] 116)) := (by repeat (first | with_reducible exact Below.refl _ _ | with_reducible assumption | with_reducible refine Below.drew ?_ | with_reducible refine Below.setCell ?_ (by first | omega | (simp; omega) | simp) _ | with_reducible refine Below.alloc ?_ (by first | omega | (simp; omega) | simp) _ | with_reducible refine Below.trans ?_ (Below.mono (by with_reducible assumption) (by first | omega | (simp; omega) | simp))))
      generalize wr.alloc (.cells #[.int .i64 c.1, .int .i64 c.2.1, .int .i64 c.2.2] 116) = wx at hX0 hRX hSX hBX ⊢
      clear c0 c1 c2
      generalize wr.heap.size = bx at hX0 hsz hltS ⊢
      go_loopw [7, 27] (fun fi x w2 => ∃ m : Nat, m ≤ X.length - (i + 1) ∧ x = .int .i64 m ∧ Below w.heap.size w w2 ∧ w2.heap[w.heap.size]? = some (.cells #[.int .i64 0, .int .i64 0] 34 (0, 0)) ∧ w2.heap[bx]? = some (.cells #[.int .i64 c.1, .int .i64 c.2.1, .int .i64 c.2.2] 116 (0, 0)) ∧ ∃ MM : List (BD × BD), MM = P ++ ((X.drop (i + 1)).take m).map (fun v => (c, v)) ∧ fi = .bool MM.isEmpty ∧ w2.heap[w.heap.size + 1]? = some (.cells #[.int .i64 (mxl (MM.map (pLo s t))), .int .i64 (mnl (MM.map (pHi s t)))] 34 (0, 0))) (fun _ x _ => X.length - (i + 1) - (intOf x).toNat)
      case atStart => exact ⟨0, by omega, rfl, hBX, hRX, hX0, P, by simp, rfl, hSX⟩
      case round =>
        obtain ⟨m, hm, rfl, hb1, hR1, hX1, MM, hQe, rfl, hS1⟩ := hrel
        rcases Nat.lt_or_ge m (X.length - (i + 1)) with hml | hml
        · obtain ⟨d, hd⟩ := some_of' (l := X) (show i + 1 + m < X.length by omega)
          obtain ⟨d0, d1, d2⟩ := cB_at (cells_below (h4 (i + 1 + m) d hd) hb1)
          have he : o + (i + 1 + m) * 3 = o + (i + 1) * 3 + m * 3 := by omega
          rw [he] at d0 d1 d2
          obtain ⟨⟨dt1, dt2⟩, dl1, dl2, dl3⟩ := hK.out d (List.mem_of_getElem? hd)
          have hcd : c.1 < d.1 := hRr.out i (i + 1 + m) c d (by omega) hC.out hd
          have hoU := upL_ok (hK.out c (List.mem_of_getElem? hC.out)) (hK.out d (List.mem_of_getElem? hd)) hcd
          have hoL := loL_ok (hK.out c (List.mem_of_getElem? hC.out)) (hK.out d (List.mem_of_getElem? hd)) hcd
          have hdr : (X.drop (i + 1))[m]? = some d := by rw [List.getElem?_drop]; exact hd
          have hQ2 : P ++ ((X.drop (i + 1)).take (m + 1)).map (fun v => (c, v)) = MM ++ [(c, d)] := by
            rw [List.take_add_one, hdr, hQe]; simp
          have hQH := Lib.hid hQ2
          have us := Lib.hid (fun w => rthrough_up s c.1 c.2.1 d.1 d.2.2 hoU (by omega) dl3 dt2 s1 s2 w)
          have ut := Lib.hid (fun w => rthrough_up t c.1 c.2.1 d.1 d.2.2 hoU (by omega) dl3 dt2 t1 t2 w)
          have ds := Lib.hid (fun w => rthrough_down s c.1 c.2.2 d.1 d.2.1 hoL dl1 (by omega) dt2 s1 s2 w)
          have dt := Lib.hid (fun w => rthrough_down t c.1 c.2.2 d.1 d.2.1 hoL dl1 (by omega) dt2 t1 t2 w)
          have hpU := Lib.hid (show pHi s t (c, d) = if ceL (c.1, c.2.1, d.1 - c.1, d.2.2 - c.2.1) s < ceL (c.1, c.2.1, d.1 - c.1, d.2.2 - c.2.1) t then ceL (c.1, c.2.1, d.1 - c.1, d.2.2 - c.2.1) t else ceL (c.1, c.2.1, d.1 - c.1, d.2.2 - c.2.1) s from (hiP_ite s t (upL c d)).symm)
          have hpL := Lib.hid (show pLo s t (c, d) = if flL (c.1, c.2.2, d.1 - c.1, d.2.1 - c.2.2) t < flL (c.1, c.2.2, d.1 - c.1, d.2.1 - c.2.2) s then flL (c.1, c.2.2, d.1 - c.1, d.2.1 - c.2.2) t else flL (c.1, c.2.2, d.1 - c.1, d.2.1 - c.2.2) s from (loP_ite s t (loL c d)).symm)
          have hn2 : X.length - (i + 1) - (m + 1) < X.length - (i + 1) - m := by omega
          have hsz1 := hb1.size
          have hltX := (Array.getElem?_eq_some_iff.1 hX1).1
          have hltS1 := (Array.getElem?_eq_some_iff.1 hS1).1
          clear hd hQ2 hQe hdr hoU hoL he
          generalize ceL (c.1, c.2.1, d.1 - c.1, d.2.2 - c.2.1) s = us' at *
          generalize ceL (c.1, c.2.1, d.1 - c.1, d.2.2 - c.2.1) t = ut' at *
          generalize flL (c.1, c.2.2, d.1 - c.1, d.2.1 - c.2.2) s = ds' at *
          generalize flL (c.1, c.2.2, d.1 - c.1, d.2.1 - c.2.2) t = dt' at *
          go_wp2_with fail
          have hY := heap_new wr (.cells #[.int .i64 d.1, .int .i64 d.2.1, .int .i64 d.2.2] 116) rfl
          have hRY := heap_alloc (X := .cells #[.int .i64 d.1, .int .i64 d.2.1, .int .i64 d.2.2] 116) hR1
          have hXY := heap_alloc (X := .cells #[.int .i64 d.1, .int .i64 d.2.1, .int .i64 d.2.2] 116) hX1
          have hSY := heap_alloc (X := .cells #[.int .i64 d.1, .int .i64 d.2.1, .int .i64 d.2.2] 116) hS1
          have hBY : Below w.heap.size w (wr.alloc (.cells #[.int .i64 d.1, .int .i64 d.2.1, .int .i64 d.2.2] 116)) := (by repeat (first | with_reducible exact Below.refl _ _ | with_reducible assumption | with_reducible refine Below.drew ?_ | with_reducible refine Below.setCell ?_ (by first | omega | (simp; omega) | simp) _ | with_reducible refine Below.alloc ?_ (by first | omega | (simp; omega) | simp) _ | with_reducible refine Below.trans ?_ (Below.mono (by with_reducible assumption) (by first | omega | (simp; omega) | simp))))
          generalize wr.alloc (.cells #[.int .i64 d.1, .int .i64 d.2.1, .int .i64 d.2.2] 116) = wy at hY hRY hXY hSY hBY ⊢
          clear d0 d1 d2 hR1 hX1 hS1 hb1
          generalize wr.heap.size = by_ at hY hsz1 hltX hltS1 ⊢
          have x0 := cell_heap (o := 0) hXY rfl
          have x1 := cell_heap (o := 1) hXY rfl
          have y0 := cell_heap (o := 0) hY rfl
          have y2 := cell_heap (o := 2) hY rfl
          have hl := @Later.cell
          refine region_later (by kernel_rfl) (by kernel_rfl) ?_; (repeat (go_big_quiet_step (first | (go_at_call_of 110 (s); exact Calls.later (us.out _)) | (go_at_call_of 110 (t); exact Calls.later (ut.out _))))); refine wpQuiet_nil ?_; rintro _ ⟨x, rfl⟩; obtain ⟨w', hb⟩ := x; (try clear hc hf); (try clear hcM hfM); (try clear hcN hfN); (first | ((first | replace hB := Below.next hB (Nat.le_refl _) hb | replace hB := Below.next1 hB (Nat.le_refl _) hb | replace hB := Below.next2 hB (Nat.le_refl _) hb); (first | replace hM := Below.next hM (Nat.le_refl _) hb | replace hM := Below.next1 hM (Nat.le_refl _) hb | replace hM := Below.next2 hM (Nat.le_refl _) hb); (first | replace hN := Below.next hN (Nat.le_refl _) hb | replace hN := Below.next1 hN (Nat.le_refl _) hb | replace hN := Below.next2 hN (Nat.le_refl _) hb)) | ((first | replace hB := Below.next hB (Nat.le_refl _) hb | replace hB := Below.next1 hB (Nat.le_refl _) hb | replace hB := Below.next2 hB (Nat.le_refl _) hb); (first | replace hM := Below.next hM (Nat.le_refl _) hb | replace hM := Below.next1 hM (Nat.le_refl _) hb | replace hM := Below.next2 hM (Nat.le_refl _) hb); have hN := Below.mid hb) | ((first | replace hB := Below.next hB (Nat.le_refl _) hb | replace hB := Below.next1 hB (Nat.le_refl _) hb | replace hB := Below.next2 hB (Nat.le_refl _) hb); (first | replace hM := Below.next hM (Nat.le_refl _) hb | replace hM := Below.next1 hM (Nat.le_refl _) hb | replace hM := Below.next2 hM (Nat.le_refl _) hb)) | ((first | replace hB := Below.next hB (Nat.le_refl _) hb | replace hB := Below.next1 hB (Nat.le_refl _) hb | replace hB := Below.next2 hB (Nat.le_refl _) hb); have hM := Below.mid hb) | (first | replace hB := Below.next hB (Nat.le_refl _) hb | replace hB := Below.next1 hB (Nat.le_refl _) hb | replace hB := Below.next2 hB (Nat.le_refl _) hb) | have hB := hb); obtain ⟨hc, hf, hz⟩ := after hB; (try (have hq := after hM; obtain ⟨hcM, hfM, hzM⟩ := hq)); (try (have hq := after hN; obtain ⟨hcN, hfN, hzN⟩ := hq)); have hs := hb.size; (try simp at hz); (try simp at hs)
          dsimp only
          rw [← hpU.out]
          generalize hpu : pHi s t (c, d) = hi' at *
          have hpU1 := Lib.hid hpu
          clear hpu
          have hB9 := Below.next hBY (Nat.le_refl _) hb
          replace hRY := heap_old hb hRY
          replace hXY := heap_old hb hXY
          replace hSY := heap_old hb hSY
          replace hY := heap_old hb hY
          clear x0 x1 y0 y2 hb hBY
          generalize w' = wz at *
          have x0 := cell_heap (o := 0) hXY rfl
          have x2 := cell_heap (o := 2) hXY rfl
          have y0 := cell_heap (o := 0) hY rfl
          have y1 := cell_heap (o := 1) hY rfl
          go_wp2_with fail
          have hl := @Later.cell
          refine region_later (by kernel_rfl) (by kernel_rfl) ?_; (repeat (go_big_quiet_step (first | (go_at_call_of 110 (s); exact Calls.later (ds.out _)) | (go_at_call_of 110 (t); exact Calls.later (dt.out _))))); refine wpQuiet_nil ?_; rintro _ ⟨x, rfl⟩; obtain ⟨w', hb⟩ := x; (try clear hc hf); (try clear hcM hfM); (try clear hcN hfN); (first | ((first | replace hB := Below.next hB (Nat.le_refl _) hb | replace hB := Below.next1 hB (Nat.le_refl _) hb | replace hB := Below.next2 hB (Nat.le_refl _) hb); (first | replace hM := Below.next hM (Nat.le_refl _) hb | replace hM := Below.next1 hM (Nat.le_refl _) hb | replace hM := Below.next2 hM (Nat.le_refl _) hb); (first | replace hN := Below.next hN (Nat.le_refl _) hb | replace hN := Below.next1 hN (Nat.le_refl _) hb | replace hN := Below.next2 hN (Nat.le_refl _) hb)) | ((first | replace hB := Below.next hB (Nat.le_refl _) hb | replace hB := Below.next1 hB (Nat.le_refl _) hb | replace hB := Below.next2 hB (Nat.le_refl _) hb); (first | replace hM := Below.next hM (Nat.le_refl _) hb | replace hM := Below.next1 hM (Nat.le_refl _) hb | replace hM := Below.next2 hM (Nat.le_refl _) hb); have hN := Below.mid hb) | ((first | replace hB := Below.next hB (Nat.le_refl _) hb | replace hB := Below.next1 hB (Nat.le_refl _) hb | replace hB := Below.next2 hB (Nat.le_refl _) hb); (first | replace hM := Below.next hM (Nat.le_refl _) hb | replace hM := Below.next1 hM (Nat.le_refl _) hb | replace hM := Below.next2 hM (Nat.le_refl _) hb)) | ((first | replace hB := Below.next hB (Nat.le_refl _) hb | replace hB := Below.next1 hB (Nat.le_refl _) hb | replace hB := Below.next2 hB (Nat.le_refl _) hb); have hM := Below.mid hb) | (first | replace hB := Below.next hB (Nat.le_refl _) hb | replace hB := Below.next1 hB (Nat.le_refl _) hb | replace hB := Below.next2 hB (Nat.le_refl _) hb) | have hB := hb); obtain ⟨hc, hf, hz⟩ := after hB; (try (have hq := after hM; obtain ⟨hcM, hfM, hzM⟩ := hq)); (try (have hq := after hN; obtain ⟨hcN, hfN, hzN⟩ := hq)); have hs := hb.size; (try simp at hz); (try simp at hs)
          dsimp only
          rw [← hpL.out]
          generalize hpl : pLo s t (c, d) = lo' at *
          have hpL1 := Lib.hid hpl
          clear hpl
          have hB8 := Below.next hB9 (Nat.le_refl _) hb
          replace hRY := heap_old hb hRY
          replace hXY := heap_old hb hXY
          replace hSY := heap_old hb hSY
          clear x0 x2 y0 y1 hb hB9 hY
          generalize w' = wv at *
          have hlR := (Array.getElem?_eq_some_iff.1 hRY).1
          have r0 := cell_heap (o := 0) hSY rfl
          have r1 := cell_heap (o := 1) hSY rfl
          have z0 := frozen_heap (o := 0) hSY
          have z1 := frozen_heap (o := 1) hSY
          by_cases hQe : MM = []
          · subst hQe
            have hS5 := heap_set (o := 1) (v := .int .i64 hi') (heap_set (o := 0) (v := .int .i64 lo') hSY)
            simp only [List.setIfInBounds_toArray, List.set_cons_succ, List.set_cons_zero] at hS5
            go_wp2_with fail
            refine ⟨⟨m + 1, hml, by simp, (by repeat (first | with_reducible exact Below.refl _ _ | with_reducible assumption | with_reducible refine Below.drew ?_ | with_reducible refine Below.setCell ?_ (by first | omega | (simp; omega) | simp) _ | with_reducible refine Below.alloc ?_ (by first | omega | (simp; omega) | simp) _ | with_reducible refine Below.trans ?_ (Below.mono (by with_reducible assumption) (by first | omega | (simp; omega) | simp)))), heap_set_other (heap_set_other hRY (by omega)) (by omega), heap_set_other (heap_set_other hXY (by omega)) (by omega), [(c, d)], by rw [hQH.out]; rfl, rfl, ?_⟩, by simpa [intOf] using hn2⟩
            simpa [mxl, mnl, hpL1.out, hpU1.out] using hS5
          · have hne : MM.isEmpty = false := by simpa using hQe
            have e1 := Lib.hid (mxl_push (l := MM.map (pLo s t)) (by simpa using hQe) lo')
            have e2 := Lib.hid (mnl_push (l := MM.map (pHi s t)) (by simpa using hQe) hi')
            have hQx := Lib.hid hQe
            clear hQe
            generalize MM.isEmpty = fb at *
            subst hne
            generalize mxl (MM.map (pLo s t)) = A at *
            generalize mnl (MM.map (pHi s t)) = B at *
            go_wp2_with fail
            all_goals
              refine ⟨⟨m + 1, hml, by simp, (by repeat (first | with_reducible exact Below.refl _ _ | with_reducible assumption | with_reducible refine Below.drew ?_ | with_reducible refine Below.setCell ?_ (by first | omega | (simp; omega) | simp) _ | with_reducible refine Below.alloc ?_ (by first | omega | (simp; omega) | simp) _ | with_reducible refine Below.trans ?_ (Below.mono (by with_reducible assumption) (by first | omega | (simp; omega) | simp)))), heap_set_other (heap_set_other hRY (by omega)) (by omega), heap_set_other (heap_set_other hXY (by omega)) (by omega), MM ++ [(c, d)], hQH.out.symm, by simp, ?_⟩, by simpa [intOf] using hn2⟩
              rw [List.map_append, List.map_append, List.map_cons, List.map_cons, List.map_nil, List.map_nil, hpL1.out, hpU1.out, e1.out, e2.out]
              rw [← ite_max, ← ite_min]
              have hS5 := heap_set (o := 1) (v := .int .i64 (if hi' < B then hi' else B)) (heap_set (o := 0) (v := .int .i64 (if A < lo' then lo' else A)) hSY)
              simp only [List.setIfInBounds_toArray, List.set_cons_succ, List.set_cons_zero] at hS5
              exact hS5
        · obtain rfl : m = X.length - (i + 1) := by omega
          have hQ3 : MM = prsR X (i + 1) := by rw [hQe, hN.out, hPH.out, List.take_of_length_le (by rw [List.length_drop]; omega)]
          have hQ3H := Lib.hid hQ3
          clear hQ3 hQe
          go_wp2_with fail
          exact ⟨⟨i + 1, hlt, by simp, hb1, hR1, MM, hQ3H.out, rfl, hS1⟩, by simpa [intOf] using hn⟩
    · obtain rfl : i = X.length := by omega
      have e1 : mxl (P.map (pLo s t)) = A0 := by rw [hLR.out, hPH.out]; rfl
      have e2 : mnl (P.map (pHi s t)) = B0 := by rw [hHR.out, hPH.out]; rfl
      rw [e1, e2] at hS0
      clear e1 e2
      have r0 := cell_heap (o := 0) hR0 rfl
      have r1 := cell_heap (o := 1) hR0 rfl
      have s0 := cell_heap (o := 0) hS0 rfl
      have s1 := cell_heap (o := 1) hS0 rfl
      have z0 := frozen_heap (o := 0) hR0
      have z1 := frozen_heap (o := 1) hR0
      go_wp2_with fail
      have hE := heap_set (o := 1) (v := .int .i64 B0) (heap_set (o := 0) (v := .int .i64 A0) hR0)
      simp only [List.setIfInBounds_toArray, List.set_cons_succ, List.set_cons_zero] at hE
      have k0 := cell_heap (o := 0) hE rfl
      have k1 := cell_heap (o := 1) hE rfl
      refine bodyPost_ret (v := .agg #[.int .i64 A0, .int .i64 B0]) (by simp only [results, Try.results73]; go_simp) rfl ⟨rfl, (by repeat (first | with_reducible exact Below.refl _ _ | with_reducible assumption | with_reducible refine Below.drew ?_ | with_reducible refine Below.setCell ?_ (by first | omega | (simp; omega) | simp) _ | with_reducible refine Below.alloc ?_ (by first | omega | (simp; omega) | simp) _ | with_reducible refine Below.trans ?_ (Below.mono (by with_reducible assumption) (by first | omega | (simp; omega) | simp))))⟩
end Go.Proofs.Ytmdledlbkdcmnaa
