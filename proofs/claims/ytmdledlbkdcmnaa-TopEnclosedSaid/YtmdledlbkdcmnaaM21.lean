/-
  Contracts and laws, merged: TopWalk.
  Conditions: none.
-/
import Derived.Test.YtmdledlbkdcmnaaM20
import Derived.Test.YtmdledlbkdcmnaaM12
import Derived.Test.YtmdledlbkdcmnaaM7
set_option linter.unusedSimpArgs false
set_option linter.unusedVariables false
/-
  The walk of the statement on enclosures, through the layers.
  Conditions: none.
-/
namespace Go.Proofs.Ytmdledlbkdcmnaa
open Go.RowKit
set_option maxRecDepth 100000 in
set_option maxHeartbeats 4000000 in
theorem topEnclosed_many (v : Value) (l : List SN) (p : TR) (t : Int) (w : World) (h : Seens w v l) (hc : ¬ l.length ≤ 10) : Calls Try.prog 3 #[v, (.agg #[.int .i64 p.1.1, .int .i64 p.1.2, .int .i64 p.2.1.1, .int .i64 p.2.1.2, .int .i64 p.2.2.1.1, .int .i64 p.2.2.1.2, .int .i64 p.2.2.2.1.1, .int .i64 p.2.2.2.1.2, .int .i64 p.2.2.2.2.1.1, .int .i64 p.2.2.2.2.1.2, .int .i64 p.2.2.2.2.2.1, .int .i64 p.2.2.2.2.2.2]), .int .i64 t] w fun e w' => e = .returned (.bool true) ∧ Below w.heap.size w w' := by
  have hfew := Lib.hid (fun w' (h : Seens w' v l) => by have := seenFew_any v l w' h; rwa [decide_eq_false hc] at this)
  have hS := Lib.hid h
  clear hc h
  go_enter Try.func3, Try.ntmps3
  go_wp2_with (first | (go_at_call 17; refine (trackAwake_any _).mono ?_; rintro e w1 ⟨rfl, hb1⟩; have hT := heap_old hb1 (heap_new w (.cells #[.int .i64 p.1.1, .int .i64 p.1.2, .int .i64 p.2.1.1, .int .i64 p.2.1.2, .int .i64 p.2.2.1.1, .int .i64 p.2.2.1.2, .int .i64 p.2.2.2.1.1, .int .i64 p.2.2.2.1.2, .int .i64 p.2.2.2.2.1.1, .int .i64 p.2.2.2.2.1.2, .int .i64 p.2.2.2.2.2.1, .int .i64 p.2.2.2.2.2.2] 26) rfl); have hK := Below.next1 (Below.refl w.heap.size w) (Nat.le_refl _) hb1; clear hb1; (have s0 := cell_heap (o := 0) hT rfl; have s1 := cell_heap (o := 1) hT rfl; have s2 := cell_heap (o := 2) hT rfl; have s3 := cell_heap (o := 3) hT rfl; have s4 := cell_heap (o := 4) hT rfl; have s5 := cell_heap (o := 5) hT rfl; have s6 := cell_heap (o := 6) hT rfl; have s7 := cell_heap (o := 7) hT rfl; have s8 := cell_heap (o := 8) hT rfl; have s9 := cell_heap (o := 9) hT rfl; have s10 := cell_heap (o := 10) hT rfl; have s11 := cell_heap (o := 11) hT rfl)) | (go_at_call 18; refine (hfew.out _ (hS.out.below hK)).mono ?_; rintro e w2 ⟨rfl, hb2⟩; replace hT := heap_old hb2 hT; replace hK := Below.next hK (Nat.le_refl _) hb2; clear hb2; (clear s0 s1 s2 s3 s4 s5 s6 s7 s8 s9 s10 s11); (have s0 := cell_heap (o := 0) hT rfl; have s1 := cell_heap (o := 1) hT rfl; have s2 := cell_heap (o := 2) hT rfl; have s3 := cell_heap (o := 3) hT rfl; have s4 := cell_heap (o := 4) hT rfl; have s5 := cell_heap (o := 5) hT rfl; have s6 := cell_heap (o := 6) hT rfl; have s7 := cell_heap (o := 7) hT rfl; have s8 := cell_heap (o := 8) hT rfl; have s9 := cell_heap (o := 9) hT rfl; have s10 := cell_heap (o := 10) hT rfl; have s11 := cell_heap (o := 11) hT rfl)))
  go_ret
  exact ⟨rfl, hK⟩
set_option maxRecDepth 100000 in
set_option maxHeartbeats 4000000 in
theorem topEnclosed_not (v : Value) (l : List SN) (p : TR) (t : Int) (w : World) (h : Seens w v l) (hc : l.length ≤ 10) (hf : fitT l p = false) : Calls Try.prog 3 #[v, (.agg #[.int .i64 p.1.1, .int .i64 p.1.2, .int .i64 p.2.1.1, .int .i64 p.2.1.2, .int .i64 p.2.2.1.1, .int .i64 p.2.2.1.2, .int .i64 p.2.2.2.1.1, .int .i64 p.2.2.2.1.2, .int .i64 p.2.2.2.2.1.1, .int .i64 p.2.2.2.2.1.2, .int .i64 p.2.2.2.2.2.1, .int .i64 p.2.2.2.2.2.2]), .int .i64 t] w fun e w' => e = .returned (.bool true) ∧ Below w.heap.size w w' := by
  have hfew := Lib.hid (fun w' (h : Seens w' v l) => by have := seenFew_any v l w' h; rwa [decide_eq_true hc] at this)
  have hfit := Lib.hid (fun w' (h : Seens w' v l) => by have := pathFits_any v l p w' h; rwa [hf] at this)
  have hS := Lib.hid h
  clear hc hf h
  go_enter Try.func3, Try.ntmps3
  go_wp2_with (first | (go_at_call 17; refine (trackAwake_any _).mono ?_; rintro e w1 ⟨rfl, hb1⟩; have hT := heap_old hb1 (heap_new w (.cells #[.int .i64 p.1.1, .int .i64 p.1.2, .int .i64 p.2.1.1, .int .i64 p.2.1.2, .int .i64 p.2.2.1.1, .int .i64 p.2.2.1.2, .int .i64 p.2.2.2.1.1, .int .i64 p.2.2.2.1.2, .int .i64 p.2.2.2.2.1.1, .int .i64 p.2.2.2.2.1.2, .int .i64 p.2.2.2.2.2.1, .int .i64 p.2.2.2.2.2.2] 26) rfl); have hK := Below.next1 (Below.refl w.heap.size w) (Nat.le_refl _) hb1; clear hb1; (have s0 := cell_heap (o := 0) hT rfl; have s1 := cell_heap (o := 1) hT rfl; have s2 := cell_heap (o := 2) hT rfl; have s3 := cell_heap (o := 3) hT rfl; have s4 := cell_heap (o := 4) hT rfl; have s5 := cell_heap (o := 5) hT rfl; have s6 := cell_heap (o := 6) hT rfl; have s7 := cell_heap (o := 7) hT rfl; have s8 := cell_heap (o := 8) hT rfl; have s9 := cell_heap (o := 9) hT rfl; have s10 := cell_heap (o := 10) hT rfl; have s11 := cell_heap (o := 11) hT rfl)) | (go_at_call 18; refine (hfew.out _ (hS.out.below hK)).mono ?_; rintro e w2 ⟨rfl, hb2⟩; replace hT := heap_old hb2 hT; replace hK := Below.next hK (Nat.le_refl _) hb2; clear hb2; (clear s0 s1 s2 s3 s4 s5 s6 s7 s8 s9 s10 s11); (have s0 := cell_heap (o := 0) hT rfl; have s1 := cell_heap (o := 1) hT rfl; have s2 := cell_heap (o := 2) hT rfl; have s3 := cell_heap (o := 3) hT rfl; have s4 := cell_heap (o := 4) hT rfl; have s5 := cell_heap (o := 5) hT rfl; have s6 := cell_heap (o := 6) hT rfl; have s7 := cell_heap (o := 7) hT rfl; have s8 := cell_heap (o := 8) hT rfl; have s9 := cell_heap (o := 9) hT rfl; have s10 := cell_heap (o := 10) hT rfl; have s11 := cell_heap (o := 11) hT rfl)) | (go_at_call 19; refine (hfit.out _ (hS.out.below hK)).mono ?_; rintro e w3 ⟨rfl, hb3⟩; replace hT := heap_old hb3 hT; replace hK := Below.next hK (Nat.le_refl _) hb3; clear hb3; (clear s0 s1 s2 s3 s4 s5 s6 s7 s8 s9 s10 s11); (have s0 := cell_heap (o := 0) hT rfl; have s1 := cell_heap (o := 1) hT rfl; have s2 := cell_heap (o := 2) hT rfl; have s3 := cell_heap (o := 3) hT rfl; have s4 := cell_heap (o := 4) hT rfl; have s5 := cell_heap (o := 5) hT rfl; have s6 := cell_heap (o := 6) hT rfl; have s7 := cell_heap (o := 7) hT rfl; have s8 := cell_heap (o := 8) hT rfl; have s9 := cell_heap (o := 9) hT rfl; have s10 := cell_heap (o := 10) hT rfl; have s11 := cell_heap (o := 11) hT rfl)))
  go_ret
  exact ⟨rfl, hK⟩
set_option maxRecDepth 100000 in
set_option maxHeartbeats 4000000 in
theorem topEnclosed_far (v : Value) (l : List SN) (p : TR) (t : Int) (w : World) (h : Seens w v l) (hc : l.length ≤ 10) (hf : fitT l p = true) (ha : aptE l t ≠ 0) : Calls Try.prog 3 #[v, (.agg #[.int .i64 p.1.1, .int .i64 p.1.2, .int .i64 p.2.1.1, .int .i64 p.2.1.2, .int .i64 p.2.2.1.1, .int .i64 p.2.2.1.2, .int .i64 p.2.2.2.1.1, .int .i64 p.2.2.2.1.2, .int .i64 p.2.2.2.2.1.1, .int .i64 p.2.2.2.2.1.2, .int .i64 p.2.2.2.2.2.1, .int .i64 p.2.2.2.2.2.2]), .int .i64 t] w fun e w' => e = .returned (.bool true) ∧ Below w.heap.size w w' := by
  obtain ⟨hb0, hp0⟩ := fitT_pos hf
  obtain ⟨ha2, hlt⟩ := aptE_fit hf ha
  have hn := beh_pos hb0
  have hok := (okS_iff.1 (bhd_ok _ (bhd_mem hb0).2)).1
  have hfew := Lib.hid (fun w' (h : Seens w' v l) => by have := seenFew_any v l w' h; rwa [decide_eq_true hc] at this)
  have hfit := Lib.hid (fun w' (h : Seens w' v l) => by have := pathFits_any v l p w' h; rwa [hf] at this)
  have hpos := Lib.hid (fun w' (h : Seens w' v l) => by have := possible_any v l w' h; unfold posV at this; rwa [posOk_yes hb0 hp0, hb0] at this)
  have hat := Lib.hid (fun w' (h : Seens w' v l) => by have := pat33_any v l t w' h; rwa [aptV_bad ha2 (by omega)] at this)
  have hS := Lib.hid h
  obtain ⟨pa, b, o, cap, rfl, h1, h2, h3, h4⟩ := h
  obtain rfl := h1 (by omega)
  have hls : l[l.length - 1]? = some (atS l (l.length - 1)) := by
    unfold atS
    rw [List.getElem?_eq_getElem (show l.length - 1 < l.length by omega)]
  have c0 := Lib.hid (h4 _ _ hls).1
  obtain ⟨n, hnl⟩ : ∃ n, l.length = n + 1 := ⟨l.length - 1, by omega⟩
  rw [show l.length - 1 = n by omega] at c0 hlt hok
  have hNL := Lib.hid hnl
  have hidx : ((l.length : Int) - 1) = (n : Int) := by omega
  have hnlt : n < l.length := by omega
  have hn10 : n ≤ 10 := by omega
  generalize (atS l n).1 = T at *
  have hLT := Lib.hid hlt
  clear hc hf ha hb0 hp0 ha2 hlt h4 h1 hls hnl
  go_enter Try.func3, Try.ntmps3
  go_wp2_with (first
    | (go_at_call 17; refine (trackAwake_any _).mono ?_; rintro e w1 ⟨rfl, hb1⟩; have hT := heap_old hb1 (heap_new w (.cells #[.int .i64 p.1.1, .int .i64 p.1.2, .int .i64 p.2.1.1, .int .i64 p.2.1.2, .int .i64 p.2.2.1.1, .int .i64 p.2.2.1.2, .int .i64 p.2.2.2.1.1, .int .i64 p.2.2.2.1.2, .int .i64 p.2.2.2.2.1.1, .int .i64 p.2.2.2.2.1.2, .int .i64 p.2.2.2.2.2.1, .int .i64 p.2.2.2.2.2.2] 26) rfl); have hK := Below.next1 (Below.refl w.heap.size w) (Nat.le_refl _) hb1; clear hb1; (have s0 := cell_heap (o := 0) hT rfl; have s1 := cell_heap (o := 1) hT rfl; have s2 := cell_heap (o := 2) hT rfl; have s3 := cell_heap (o := 3) hT rfl; have s4 := cell_heap (o := 4) hT rfl; have s5 := cell_heap (o := 5) hT rfl; have s6 := cell_heap (o := 6) hT rfl; have s7 := cell_heap (o := 7) hT rfl; have s8 := cell_heap (o := 8) hT rfl; have s9 := cell_heap (o := 9) hT rfl; have s10 := cell_heap (o := 10) hT rfl; have s11 := cell_heap (o := 11) hT rfl))
    | (go_at_call 18; refine (hfew.out _ (hS.out.below hK)).mono ?_; rintro e w2 ⟨rfl, hb2⟩; replace hT := heap_old hb2 hT; replace hK := Below.next hK (Nat.le_refl _) hb2; clear hb2; (clear s0 s1 s2 s3 s4 s5 s6 s7 s8 s9 s10 s11); (have s0 := cell_heap (o := 0) hT rfl; have s1 := cell_heap (o := 1) hT rfl; have s2 := cell_heap (o := 2) hT rfl; have s3 := cell_heap (o := 3) hT rfl; have s4 := cell_heap (o := 4) hT rfl; have s5 := cell_heap (o := 5) hT rfl; have s6 := cell_heap (o := 6) hT rfl; have s7 := cell_heap (o := 7) hT rfl; have s8 := cell_heap (o := 8) hT rfl; have s9 := cell_heap (o := 9) hT rfl; have s10 := cell_heap (o := 10) hT rfl; have s11 := cell_heap (o := 11) hT rfl))
    | (go_at_call 19; refine (hfit.out _ (hS.out.below hK)).mono ?_; rintro e w3 ⟨rfl, hb3⟩; replace hT := heap_old hb3 hT; replace hK := Below.next hK (Nat.le_refl _) hb3; clear hb3; (clear s0 s1 s2 s3 s4 s5 s6 s7 s8 s9 s10 s11); (have s0 := cell_heap (o := 0) hT rfl; have s1 := cell_heap (o := 1) hT rfl; have s2 := cell_heap (o := 2) hT rfl; have s3 := cell_heap (o := 3) hT rfl; have s4 := cell_heap (o := 4) hT rfl; have s5 := cell_heap (o := 5) hT rfl; have s6 := cell_heap (o := 6) hT rfl; have s7 := cell_heap (o := 7) hT rfl; have s8 := cell_heap (o := 8) hT rfl; have s9 := cell_heap (o := 9) hT rfl; have s10 := cell_heap (o := 10) hT rfl; have s11 := cell_heap (o := 11) hT rfl))
    | (go_at_call 20; refine (hpos.out _ (hS.out.below hK)).mono ?_; rintro e w4 ⟨rfl, hb4⟩; replace hT := heap_old hb4 hT; replace hK := Below.next hK (Nat.le_refl _) hb4; clear hb4; (clear s0 s1 s2 s3 s4 s5 s6 s7 s8 s9 s10 s11); (have s0 := cell_heap (o := 0) hT rfl; have s1 := cell_heap (o := 1) hT rfl; have s2 := cell_heap (o := 2) hT rfl; have s3 := cell_heap (o := 3) hT rfl; have s4 := cell_heap (o := 4) hT rfl; have s5 := cell_heap (o := 5) hT rfl; have s6 := cell_heap (o := 6) hT rfl; have s7 := cell_heap (o := 7) hT rfl; have s8 := cell_heap (o := 8) hT rfl; have s9 := cell_heap (o := 9) hT rfl; have s10 := cell_heap (o := 10) hT rfl; have s11 := cell_heap (o := 11) hT rfl))
    | (go_at_call 21; refine (hat.out _ (hS.out.below hK)).mono ?_; rintro e w5 ⟨rfl, hb5⟩; replace hK := Below.next hK (Nat.le_refl _) hb5; clear hb5; (clear s0 s1 s2 s3 s4 s5 s6 s7 s8 s9 s10 s11); have hs5 := hK.size; have hK3 := ((hK.alloc hs5 (.cells #[.int .i64 0, .int .i64 0] 34)).alloc (by simp; omega) (.cells #[.int .i64 0, .int .i64 0] 34)).alloc (by simp; omega) (.cells #[.int .i64 0, .int .i64 0] 34); have k0 := ((after hK3).1 _ _ (by rw [c0.out]; rfl)).trans c0.out))
  all_goals
    go_ret
    refine ⟨ret_bool ?_, hK3⟩
    have := hLT.out
    clear k0 hK3 hK hfew hfit hpos hat hS
    grind
set_option maxRecDepth 100000 in
set_option maxHeartbeats 8000000 in
theorem topEnclosed_in (v : Value) (l : List SN) (p : TR) (t : Int) (w : World) (h : Seens w v l) (hc : l.length ≤ 10) (hf : fitT l p = true) (ha : aptE l t = 0) : Calls Try.prog 3 #[v, (.agg #[.int .i64 p.1.1, .int .i64 p.1.2, .int .i64 p.2.1.1, .int .i64 p.2.1.2, .int .i64 p.2.2.1.1, .int .i64 p.2.2.1.2, .int .i64 p.2.2.2.1.1, .int .i64 p.2.2.2.1.2, .int .i64 p.2.2.2.2.1.1, .int .i64 p.2.2.2.2.1.2, .int .i64 p.2.2.2.2.2.1, .int .i64 p.2.2.2.2.2.2]), .int .i64 t] w fun e w' => e = .returned (.bool true) ∧ Below w.heap.size w w' := by
  obtain ⟨hb0, hp0⟩ := fitT_pos hf
  obtain ⟨f0, f1, f2⟩ := fitT_parts hf
  obtain ⟨l0, l1, l2⟩ := aptE_parts ha
  obtain ⟨⟨t1, t2⟩, ⟨xa, xb⟩, ⟨xc, xd⟩, x1, x2⟩ := encloses f0 l0
  obtain ⟨_, ⟨ya, yb⟩, ⟨yc, yd⟩, y1, y2⟩ := encloses f1 l1
  obtain ⟨⟨za, zb⟩, ⟨zc, zd⟩, z1, z2⟩ := enclosesZ f2 l2
  obtain ⟨_, _, dx, ox, _⟩ := pfB_all f0
  obtain ⟨_, _, dy, oy, _⟩ := pfB_all f1
  obtain ⟨_, _, dz, oz, _⟩ := pfB_all f2
  have bx := ord_in ox
  have by' := ord_in oy
  have bz := ord_in oz
  have vz := val_bd2 bz (show -10 ≤ t by omega) (show t ≤ 5000 by omega)
  have vzd : valN (ordA p.2.2.2.2.1 p.2.2.2.2.2) (ordB p.2.2.2.2.1 p.2.2.2.2.2) t = (ordA p.2.2.2.2.1 p.2.2.2.2.2).2 * ((ordB p.2.2.2.2.1 p.2.2.2.2.2).1 - t) + (ordB p.2.2.2.2.1 p.2.2.2.2.2).2 * (t - (ordA p.2.2.2.2.1 p.2.2.2.2.2).1) := rfl
  have hfew := Lib.hid (fun w' (h : Seens w' v l) => by have := seenFew_any v l w' h; rwa [decide_eq_true hc] at this)
  have hfit := Lib.hid (fun w' (h : Seens w' v l) => by have := pathFits_any v l p w' h; rwa [hf] at this)
  have hpos := Lib.hid (fun w' (h : Seens w' v l) => by have := possible_any v l w' h; unfold posV at this; rwa [posOk_yes hb0 hp0, hb0] at this)
  have hat := Lib.hid (fun w' (h : Seens w' v l) => by have := pat33_any v l t w' h; unfold aptV at this; rwa [if_pos ha] at this)
  have hv0 := Lib.hid (fun w => lineValue_any p.1 p.2.1 t w (in_of ox) (by omega) (by omega))
  have hv1 := Lib.hid (fun w => lineValue_any p.2.2.1 p.2.2.2.1 t w (in_of oy) (by omega) (by omega))
  have hv2 := Lib.hid (fun w => lineValue_any p.2.2.2.2.1 p.2.2.2.2.2 t w (in_of oz) (by omega) (by omega))
  have hS := Lib.hid h
  have e0 : 0 ≤ 981 * t * t ∧ 981 * t * t ≤ 19000000000 := by
    have s1 : 0 ≤ t * t ∧ t * t ≤ 19360000 := ⟨Int.mul_nonneg t1 t1, sq_le t1 t2⟩
    have e3 : 981 * t * t = 981 * (t * t) := by grind
    omega
  have et : -9223372036854775808 ≤ 981 * t ∧ 981 * t ≤ 9223372036854775807 := by omega
  have dxb : (ordB p.1 p.2.1).1 - (ordA p.1 p.2.1).1 ≤ 8000 := by omega
  have dyb : (ordB p.2.2.1 p.2.2.2.1).1 - (ordA p.2.2.1 p.2.2.2.1).1 ≤ 8000 := by omega
  have dzb : (ordB p.2.2.2.2.1 p.2.2.2.2.2).1 - (ordA p.2.2.2.2.1 p.2.2.2.2.2).1 ≤ 8000 := by omega
  have vzb : -20000000000000000 ≤ valN (ordA p.2.2.2.2.1 p.2.2.2.2.2) (ordB p.2.2.2.2.1 p.2.2.2.2.2) t ∧ valN (ordA p.2.2.2.2.1 p.2.2.2.2.2) (ordB p.2.2.2.2.1 p.2.2.2.2.2) t ≤ 20000000000000000 := by rw [vzd]; omega
  clear vz vzd bx by' bz ox oy oz hc hf ha hb0 hp0 f0 f1 f2 l0 l1 l2 h
  generalize valN (ordA p.1 p.2.1) (ordB p.1 p.2.1) t = VX at *
  generalize valN (ordA p.2.2.1 p.2.2.2.1) (ordB p.2.2.1 p.2.2.2.1) t = VY at *
  generalize valN (ordA p.2.2.2.2.1 p.2.2.2.2.2) (ordB p.2.2.2.2.1 p.2.2.2.2.2) t = VZ at *
  have dx0 : 0 < (ordB p.1 p.2.1).1 - (ordA p.1 p.2.1).1 := by omega
  have dy0 : 0 < (ordB p.2.2.1 p.2.2.2.1).1 - (ordA p.2.2.1 p.2.2.2.1).1 := by omega
  have dz0 : 0 < (ordB p.2.2.2.2.1 p.2.2.2.2.2).1 - (ordA p.2.2.2.2.1 p.2.2.2.2.2).1 := by omega
  clear dx dy dz
  generalize (ordB p.1 p.2.1).1 - (ordA p.1 p.2.1).1 = DX at *
  generalize (ordB p.2.2.1 p.2.2.2.1).1 - (ordA p.2.2.1 p.2.2.2.1).1 = DY at *
  generalize (ordB p.2.2.2.2.1 p.2.2.2.2.2).1 - (ordA p.2.2.2.2.1 p.2.2.2.2.2).1 = DZ at *
  generalize fallLo (linLo l 2 t) (linHi l 2 t) t t = FL at *
  generalize fallHi (linLo l 2 t) (linHi l 2 t) t t = FH at *
  generalize linLo l 0 t = XL at *
  generalize linHi l 0 t = XH at *
  generalize linLo l 1 t = YL at *
  generalize linHi l 1 t = YH at *
  obtain ⟨m1, m2⟩ := mul_bd (A := 300000000000000) (B := 8000) (a := XL) (b := DX) (by omega) (by omega) (by omega) (by omega)
  obtain ⟨m3, m4⟩ := mul_bd (A := 300000000000000) (B := 8000) (a := XH) (b := DX) (by omega) (by omega) (by omega) (by omega)
  obtain ⟨m5, m6⟩ := mul_bd (A := 300000000000000) (B := 8000) (a := YL) (b := DY) (by omega) (by omega) (by omega) (by omega)
  obtain ⟨m7, m8⟩ := mul_bd (A := 300000000000000) (B := 8000) (a := YH) (b := DY) (by omega) (by omega) (by omega) (by omega)
  obtain ⟨m9, m10⟩ := mul_bd (A := 400000000000000) (B := 8000) (a := FL * 80000) (b := DZ) (by omega) (by omega) (by omega) (by omega)
  obtain ⟨m11, m12⟩ := mul_bd (A := 400000000000000) (B := 8000) (a := FH * 80000) (b := DZ) (by omega) (by omega) (by omega) (by omega)
  obtain ⟨m13, m14⟩ := mul_bd (A := 19000000000) (B := 8000) (a := 981 * t * t) (b := DZ) (by omega) (by omega) (by omega) (by omega)
  have w1' : IntKind.i64.wrap (981 * t) = 981 * t := kwrap_id (by omega) (by omega)
  have w2' : IntKind.i64.wrap (981 * t * t) = 981 * t * t := kwrap_id (by omega) (by omega)
  have w3' : IntKind.i64.wrap (981 * t * t * DZ) = 981 * t * t * DZ := kwrap_id (by omega) (by omega)
  have w4' : IntKind.i64.wrap (VZ - 981 * t * t * DZ) = VZ - 981 * t * t * DZ := kwrap_id (by omega) (by omega)
  have w5' : IntKind.i64.wrap (FL * 80000) = FL * 80000 := kwrap_id (by omega) (by omega)
  have w6' : IntKind.i64.wrap (FH * 80000) = FH * 80000 := kwrap_id (by omega) (by omega)
  have w7' : IntKind.i64.wrap (FL * 80000 * DZ) = FL * 80000 * DZ := kwrap_id (by omega) (by omega)
  have w8' : IntKind.i64.wrap (FH * 80000 * DZ) = FH * 80000 * DZ := kwrap_id (by omega) (by omega)
  go_enter Try.func3, Try.ntmps3
  go_wp2_with (first
    | (go_at_call 17; refine (trackAwake_any _).mono ?_; rintro e w1 ⟨rfl, hb1⟩; have hT := heap_old hb1 (heap_new w (.cells #[.int .i64 p.1.1, .int .i64 p.1.2, .int .i64 p.2.1.1, .int .i64 p.2.1.2, .int .i64 p.2.2.1.1, .int .i64 p.2.2.1.2, .int .i64 p.2.2.2.1.1, .int .i64 p.2.2.2.1.2, .int .i64 p.2.2.2.2.1.1, .int .i64 p.2.2.2.2.1.2, .int .i64 p.2.2.2.2.2.1, .int .i64 p.2.2.2.2.2.2] 26) rfl); have hK := Below.next1 (Below.refl w.heap.size w) (Nat.le_refl _) hb1; clear hb1; (have s0 := cell_heap (o := 0) hT rfl; have s1 := cell_heap (o := 1) hT rfl; have s2 := cell_heap (o := 2) hT rfl; have s3 := cell_heap (o := 3) hT rfl; have s4 := cell_heap (o := 4) hT rfl; have s5 := cell_heap (o := 5) hT rfl; have s6 := cell_heap (o := 6) hT rfl; have s7 := cell_heap (o := 7) hT rfl; have s8 := cell_heap (o := 8) hT rfl; have s9 := cell_heap (o := 9) hT rfl; have s10 := cell_heap (o := 10) hT rfl; have s11 := cell_heap (o := 11) hT rfl))
    | (go_at_call 18; refine (hfew.out _ (hS.out.below hK)).mono ?_; rintro e w2 ⟨rfl, hb2⟩; replace hT := heap_old hb2 hT; replace hK := Below.next hK (Nat.le_refl _) hb2; clear hb2; (clear s0 s1 s2 s3 s4 s5 s6 s7 s8 s9 s10 s11); (have s0 := cell_heap (o := 0) hT rfl; have s1 := cell_heap (o := 1) hT rfl; have s2 := cell_heap (o := 2) hT rfl; have s3 := cell_heap (o := 3) hT rfl; have s4 := cell_heap (o := 4) hT rfl; have s5 := cell_heap (o := 5) hT rfl; have s6 := cell_heap (o := 6) hT rfl; have s7 := cell_heap (o := 7) hT rfl; have s8 := cell_heap (o := 8) hT rfl; have s9 := cell_heap (o := 9) hT rfl; have s10 := cell_heap (o := 10) hT rfl; have s11 := cell_heap (o := 11) hT rfl))
    | (go_at_call 19; refine (hfit.out _ (hS.out.below hK)).mono ?_; rintro e w3 ⟨rfl, hb3⟩; replace hT := heap_old hb3 hT; replace hK := Below.next hK (Nat.le_refl _) hb3; clear hb3; (clear s0 s1 s2 s3 s4 s5 s6 s7 s8 s9 s10 s11); (have s0 := cell_heap (o := 0) hT rfl; have s1 := cell_heap (o := 1) hT rfl; have s2 := cell_heap (o := 2) hT rfl; have s3 := cell_heap (o := 3) hT rfl; have s4 := cell_heap (o := 4) hT rfl; have s5 := cell_heap (o := 5) hT rfl; have s6 := cell_heap (o := 6) hT rfl; have s7 := cell_heap (o := 7) hT rfl; have s8 := cell_heap (o := 8) hT rfl; have s9 := cell_heap (o := 9) hT rfl; have s10 := cell_heap (o := 10) hT rfl; have s11 := cell_heap (o := 11) hT rfl))
    | (go_at_call 20; refine (hpos.out _ (hS.out.below hK)).mono ?_; rintro e w4 ⟨rfl, hb4⟩; replace hT := heap_old hb4 hT; replace hK := Below.next hK (Nat.le_refl _) hb4; clear hb4; (clear s0 s1 s2 s3 s4 s5 s6 s7 s8 s9 s10 s11); (have s0 := cell_heap (o := 0) hT rfl; have s1 := cell_heap (o := 1) hT rfl; have s2 := cell_heap (o := 2) hT rfl; have s3 := cell_heap (o := 3) hT rfl; have s4 := cell_heap (o := 4) hT rfl; have s5 := cell_heap (o := 5) hT rfl; have s6 := cell_heap (o := 6) hT rfl; have s7 := cell_heap (o := 7) hT rfl; have s8 := cell_heap (o := 8) hT rfl; have s9 := cell_heap (o := 9) hT rfl; have s10 := cell_heap (o := 10) hT rfl; have s11 := cell_heap (o := 11) hT rfl))
    | (go_at_call 21; refine (hat.out _ (hS.out.below hK)).mono ?_; rintro e w5 ⟨rfl, hb5⟩; replace hT := heap_old hb5 hT; replace hK := Below.next hK (Nat.le_refl _) hb5; have hR0 := heap_alloc (X := .cells #[.int .i64 FL, .int .i64 FH] 34) (heap_alloc (X := .cells #[.int .i64 YL, .int .i64 YH] 34) (heap_new w5 (.cells #[.int .i64 XL, .int .i64 XH] 34) rfl)); have hR1 := heap_alloc (X := .cells #[.int .i64 FL, .int .i64 FH] 34) (heap_new (w5.alloc (.cells #[.int .i64 XL, .int .i64 XH] 34)) (.cells #[.int .i64 YL, .int .i64 YH] 34) (b := w5.heap.size + 1) (by simp)); have hR2 := heap_new ((w5.alloc (.cells #[.int .i64 XL, .int .i64 XH] 34)).alloc (.cells #[.int .i64 YL, .int .i64 YH] 34)) (.cells #[.int .i64 FL, .int .i64 FH] 34) (b := w5.heap.size + 1 + 1) (by simp); have hs5 := hK.size; replace hK := ((hK.alloc hs5 (.cells #[.int .i64 XL, .int .i64 XH] 34)).alloc (by simp; omega) (.cells #[.int .i64 YL, .int .i64 YH] 34)).alloc (by simp; omega) (.cells #[.int .i64 FL, .int .i64 FH] 34); replace hT := heap_alloc (X := .cells #[.int .i64 FL, .int .i64 FH] 34) (heap_alloc (X := .cells #[.int .i64 YL, .int .i64 YH] 34) (heap_alloc (X := .cells #[.int .i64 XL, .int .i64 XH] 34) hT)); clear hb5; (clear s0 s1 s2 s3 s4 s5 s6 s7 s8 s9 s10 s11); (have s0 := cell_heap (o := 0) hT rfl; have s1 := cell_heap (o := 1) hT rfl; have s2 := cell_heap (o := 2) hT rfl; have s3 := cell_heap (o := 3) hT rfl; have s4 := cell_heap (o := 4) hT rfl; have s5 := cell_heap (o := 5) hT rfl; have s6 := cell_heap (o := 6) hT rfl; have s7 := cell_heap (o := 7) hT rfl; have s8 := cell_heap (o := 8) hT rfl; have s9 := cell_heap (o := 9) hT rfl; have s10 := cell_heap (o := 10) hT rfl; have s11 := cell_heap (o := 11) hT rfl))
    | (go_at_call 22; have q1 := hLV1; clear q1; refine (hv2.out _).mono ?_; rintro e w8 ⟨rfl, hb8⟩; replace hT := heap_old hb8 hT; replace hR0 := heap_old hb8 hR0; replace hR1 := heap_old hb8 hR1; replace hR2 := heap_old hb8 hR2; replace hK := Below.next hK (Nat.le_refl _) hb8; clear hb8; (clear s0 s1 s2 s3 s4 s5 s6 s7 s8 s9 s10 s11); have r0 := cell_heap (o := 0) hR0 rfl; have r1 := cell_heap (o := 1) hR0 rfl; have r2 := cell_heap (o := 0) hR1 rfl; have r3 := cell_heap (o := 1) hR1 rfl; have r4 := cell_heap (o := 0) hR2 rfl; have r5 := cell_heap (o := 1) hR2 rfl)
    | (go_at_call 22; have q0 := hLV0; clear q0; refine (hv1.out _).mono ?_; rintro e w7 ⟨rfl, hb7⟩; have hLV1 := True.intro; replace hT := heap_old hb7 hT; replace hR0 := heap_old hb7 hR0; replace hR1 := heap_old hb7 hR1; replace hR2 := heap_old hb7 hR2; replace hK := Below.next hK (Nat.le_refl _) hb7; clear hb7; (clear s0 s1 s2 s3 s4 s5 s6 s7 s8 s9 s10 s11); (have s0 := cell_heap (o := 0) hT rfl; have s1 := cell_heap (o := 1) hT rfl; have s2 := cell_heap (o := 2) hT rfl; have s3 := cell_heap (o := 3) hT rfl; have s4 := cell_heap (o := 4) hT rfl; have s5 := cell_heap (o := 5) hT rfl; have s6 := cell_heap (o := 6) hT rfl; have s7 := cell_heap (o := 7) hT rfl; have s8 := cell_heap (o := 8) hT rfl; have s9 := cell_heap (o := 9) hT rfl; have s10 := cell_heap (o := 10) hT rfl; have s11 := cell_heap (o := 11) hT rfl))
    | (go_at_call 22; refine (hv0.out _).mono ?_; rintro e w6 ⟨rfl, hb6⟩; have hLV0 := True.intro; replace hT := heap_old hb6 hT; replace hR0 := heap_old hb6 hR0; replace hR1 := heap_old hb6 hR1; replace hR2 := heap_old hb6 hR2; replace hK := Below.next hK (Nat.le_refl _) hb6; clear hb6; (clear s0 s1 s2 s3 s4 s5 s6 s7 s8 s9 s10 s11); (have s0 := cell_heap (o := 0) hT rfl; have s1 := cell_heap (o := 1) hT rfl; have s2 := cell_heap (o := 2) hT rfl; have s3 := cell_heap (o := 3) hT rfl; have s4 := cell_heap (o := 4) hT rfl; have s5 := cell_heap (o := 5) hT rfl; have s6 := cell_heap (o := 6) hT rfl; have s7 := cell_heap (o := 7) hT rfl; have s8 := cell_heap (o := 8) hT rfl; have s9 := cell_heap (o := 9) hT rfl; have s10 := cell_heap (o := 10) hT rfl; have s11 := cell_heap (o := 11) hT rfl)))
  all_goals
    go_ret
    exact ⟨rfl, hK⟩
theorem topEnclosed_walk (v : Value) (l : List SN) (p : TR) (t : Int) (w : World) (h : Seens w v l) : Calls Try.prog 3 #[v, (.agg #[.int .i64 p.1.1, .int .i64 p.1.2, .int .i64 p.2.1.1, .int .i64 p.2.1.2, .int .i64 p.2.2.1.1, .int .i64 p.2.2.1.2, .int .i64 p.2.2.2.1.1, .int .i64 p.2.2.2.1.2, .int .i64 p.2.2.2.2.1.1, .int .i64 p.2.2.2.2.1.2, .int .i64 p.2.2.2.2.2.1, .int .i64 p.2.2.2.2.2.2]), .int .i64 t] w fun e w' => e = .returned (.bool true) ∧ Below w.heap.size w w' := by
  by_cases hc : l.length ≤ 10
  · cases hf : fitT l p with
    | false => exact topEnclosed_not v l p t w h hc hf
    | true =>
      by_cases ha : aptE l t = 0
      · exact topEnclosed_in v l p t w h hc hf ha
      · exact topEnclosed_far v l p t w h hc hf ha
  · exact topEnclosed_many v l p t w h hc
end Go.Proofs.Ytmdledlbkdcmnaa
