/-
  Contracts and laws, merged: Abs2 TopDec TopDecM.
  Conditions: none.
-/
import Derived.Test.YtmdledlbkdcmnaaM3
import Derived.Test.YtmdledlbkdcmnaaM25
import Derived.Test.YtmdledlbkdcmnaaM15
set_option linter.unusedSimpArgs false
set_option linter.unusedVariables false
/-
  A sequence told chunk by chunk.
  Conditions: none.
-/
namespace Go.Proofs.Ytmdledlbkdcmnaa
open Go.RowKit
theorem wp_seq_abs {P : Program} {x y : Code} {Q : Exit → Act → World → Prop} {a : Act} {w : World} (R : Act → Act → World → Prop) (h : x.wp P (AbsQ (R a)) a w) (k : ∀ a' W, R a a' W → y.wp P Q a' W) : (Code.seq x y).wp P Q a w :=
  wp_seq (wp_abs R h k)
theorem wp_absK {P : Program} {c : Code} {Q : Exit → Act → World → Prop} {a : Act} {w : World} (R : Act → Act → World → Prop) (h : ∀ K : Act → World → Prop, (∀ a' W, R a a' W → K a' W) → c.wp P (AbsQ K) a w) (k : ∀ a' W, R a a' W → Q .normal a' W) : c.wp P Q a w := wp_abs R (h (R a) fun _ _ h => h) k
theorem wp_cut1 {P : Program} {x1 y : Code} {Q : Exit → Act → World → Prop} {a : Act} {w : World} (R : Act → Act → World → Prop) (h : ∀ y' : Code, (∀ a' W, R a a' W → y'.wp P Q a' W) → (Code.seq x1 y').wp P Q a w) (k : ∀ a' W, R a a' W → y.wp P Q a' W) : (Code.seq x1 y).wp P Q a w := h y k
theorem wp_cut6 {P : Program} {x1 x2 x3 x4 x5 x6 y : Code} {Q : Exit → Act → World → Prop} {a : Act} {w : World} (R : Act → Act → World → Prop) (h : ∀ y' : Code, (∀ a' W, R a a' W → y'.wp P Q a' W) → (Code.seq x1 (Code.seq x2 (Code.seq x3 (Code.seq x4 (Code.seq x5 (Code.seq x6 y')))))).wp P Q a w) (k : ∀ a' W, R a a' W → y.wp P Q a' W) : (Code.seq x1 (Code.seq x2 (Code.seq x3 (Code.seq x4 (Code.seq x5 (Code.seq x6 y)))))).wp P Q a w := h y k
end Go.Proofs.Ytmdledlbkdcmnaa

/-
  The walk of the statement on decisions, through the layers: the easy cases.
  Conditions: none.
-/
namespace Go.Proofs.Ytmdledlbkdcmnaa
open Go.RowKit
theorem crossing_ex (p : TR) (w : World) : Calls Try.prog 24 #[(.agg #[.int .i64 p.1.1, .int .i64 p.1.2, .int .i64 p.2.1.1, .int .i64 p.2.1.2, .int .i64 p.2.2.1.1, .int .i64 p.2.2.1.2, .int .i64 p.2.2.2.1.1, .int .i64 p.2.2.2.1.2, .int .i64 p.2.2.2.2.1.1, .int .i64 p.2.2.2.2.1.2, .int .i64 p.2.2.2.2.2.1, .int .i64 p.2.2.2.2.2.2])] w fun e w' => (∃ n d ok, e = .returned (.tuple #[.int .i64 n, .int .i64 d, .bool ok])) ∧ Below w.heap.size w w' := by
  by_cases g1 : p.1.2 < -33554432 ∨ 33554432 < p.1.2
  · exact (crossing_1 p g1 w).mono fun e w' h => ⟨⟨_, _, _, h.1⟩, h.2⟩
  by_cases g2 : p.2.1.2 < -33554432 ∨ 33554432 < p.2.1.2
  · exact (crossing_2 p (by omega) (by omega) g2 w).mono fun e w' h => ⟨⟨_, _, _, h.1⟩, h.2⟩
  by_cases g3 : p.2.2.1.2 < -33554432 ∨ 33554432 < p.2.2.1.2
  · exact (crossing_3 p (by omega) (by omega) (by omega) (by omega) g3 w).mono fun e w' h => ⟨⟨_, _, _, h.1⟩, h.2⟩
  by_cases g4 : p.2.2.2.1.2 < -33554432 ∨ 33554432 < p.2.2.2.1.2
  · exact (crossing_4 p (by omega) (by omega) (by omega) (by omega) (by omega) (by omega) g4 w).mono fun e w' h => ⟨⟨_, _, _, h.1⟩, h.2⟩
  exact (crossing_in p (by omega) (by omega) (by omega) (by omega) (by omega) (by omega) (by omega) (by omega) _ _ _ rfl rfl rfl w).mono fun e w' h => ⟨⟨_, _, _, h.1⟩, h.2⟩
set_option maxRecDepth 100000 in
set_option maxHeartbeats 4000000 in
theorem topDec_many (v : Value) (l : List SN) (left shot bat void : Bool) (p : TR) (w : World) (h : Seens w v l) (hc : ¬ l.length ≤ 10) : Calls Try.prog 4 #[(.agg #[v, .bool left, .bool shot, .bool bat, .bool void]), (.agg #[.int .i64 p.1.1, .int .i64 p.1.2, .int .i64 p.2.1.1, .int .i64 p.2.1.2, .int .i64 p.2.2.1.1, .int .i64 p.2.2.1.2, .int .i64 p.2.2.2.1.1, .int .i64 p.2.2.2.1.2, .int .i64 p.2.2.2.2.1.1, .int .i64 p.2.2.2.2.1.2, .int .i64 p.2.2.2.2.2.1, .int .i64 p.2.2.2.2.2.2])] w fun e w' => e = .returned (.bool true) ∧ Below w.heap.size w w' := by
  have hfew := Lib.hid (fun w' (h : Seens w' v l) => by have := seenFew_any v l w' h; rwa [decide_eq_false hc] at this)
  have hS := Lib.hid h
  clear hc h
  go_enter Try.func4, Try.ntmps4
  go_wp2_with (first | (go_at_call 17; refine (trackAwake_any _).mono ?_; rintro e w1 ⟨rfl, hb1⟩; have hT := heap_old hb1 (heap_new (w.alloc (.cells #[v, .bool left, .bool shot, .bool bat, .bool void] 43)) (.cells #[.int .i64 p.1.1, .int .i64 p.1.2, .int .i64 p.2.1.1, .int .i64 p.2.1.2, .int .i64 p.2.2.1.1, .int .i64 p.2.2.1.2, .int .i64 p.2.2.2.1.1, .int .i64 p.2.2.2.1.2, .int .i64 p.2.2.2.2.1.1, .int .i64 p.2.2.2.2.1.2, .int .i64 p.2.2.2.2.2.1, .int .i64 p.2.2.2.2.2.2] 26) (b := w.heap.size + 1) (by simp)); have hB := heap_old hb1 (heap_alloc (X := (.cells #[.int .i64 p.1.1, .int .i64 p.1.2, .int .i64 p.2.1.1, .int .i64 p.2.1.2, .int .i64 p.2.2.1.1, .int .i64 p.2.2.1.2, .int .i64 p.2.2.2.1.1, .int .i64 p.2.2.2.1.2, .int .i64 p.2.2.2.2.1.1, .int .i64 p.2.2.2.2.1.2, .int .i64 p.2.2.2.2.2.1, .int .i64 p.2.2.2.2.2.2] 26)) (heap_new w (.cells #[v, .bool left, .bool shot, .bool bat, .bool void] 43) rfl)); have hK := Below.next2 (Below.refl w.heap.size w) (Nat.le_refl _) hb1; clear hb1; (have b0 := cell_heap (o := 0) hB rfl; have b1 := cell_heap (o := 1) hB rfl; have b2 := cell_heap (o := 2) hB rfl; have b3 := cell_heap (o := 3) hB rfl; have b4 := cell_heap (o := 4) hB rfl)) | (go_at_call 18; refine (hfew.out _ (hS.out.below hK)).mono ?_; rintro e w2 ⟨rfl, hb2⟩; replace hT := heap_old hb2 hT; replace hB := heap_old hb2 hB; replace hK := Below.next hK (Nat.le_refl _) hb2; clear hb2; (clear b0 b1 b2 b3 b4); (have b0 := cell_heap (o := 0) hB rfl; have b1 := cell_heap (o := 1) hB rfl; have b2 := cell_heap (o := 2) hB rfl; have b3 := cell_heap (o := 3) hB rfl; have b4 := cell_heap (o := 4) hB rfl)))
  go_ret
  exact ⟨rfl, hK⟩
set_option maxRecDepth 100000 in
set_option maxHeartbeats 4000000 in
theorem topDec_err (v : Value) (l : List SN) (left shot bat void : Bool) (p : TR) (w : World) (h : Seens w v l) (hc : l.length ≤ 10) (CALL c2 c3 c4 E : Int) (hE : E ≠ 0) (hde : ∀ w', Seens w' v l → Calls Try.prog 23 #[(.agg #[v, .bool left, .bool shot, .bool bat, .bool void])] w' fun e w'' => e = .returned (.tuple #[.agg #[.int .u8 CALL, .int .u8 c2, .int .u8 c3, .int .u8 c4], .int .i64 E]) ∧ Below w'.heap.size w' w'') : Calls Try.prog 4 #[(.agg #[v, .bool left, .bool shot, .bool bat, .bool void]), (.agg #[.int .i64 p.1.1, .int .i64 p.1.2, .int .i64 p.2.1.1, .int .i64 p.2.1.2, .int .i64 p.2.2.1.1, .int .i64 p.2.2.1.2, .int .i64 p.2.2.2.1.1, .int .i64 p.2.2.2.1.2, .int .i64 p.2.2.2.2.1.1, .int .i64 p.2.2.2.2.1.2, .int .i64 p.2.2.2.2.2.1, .int .i64 p.2.2.2.2.2.2])] w fun e w' => e = .returned (.bool true) ∧ Below w.heap.size w w' := by
  have hfew := Lib.hid (fun w' (h : Seens w' v l) => by have := seenFew_any v l w' h; rwa [decide_eq_true hc] at this)
  have hdec := Lib.hid hde
  have hS := Lib.hid h
  clear hc h hde
  go_enter Try.func4, Try.ntmps4
  go_wp2_with (first | (go_at_call 17; refine (trackAwake_any _).mono ?_; rintro e w1 ⟨rfl, hb1⟩; have hT := heap_old hb1 (heap_new (w.alloc (.cells #[v, .bool left, .bool shot, .bool bat, .bool void] 43)) (.cells #[.int .i64 p.1.1, .int .i64 p.1.2, .int .i64 p.2.1.1, .int .i64 p.2.1.2, .int .i64 p.2.2.1.1, .int .i64 p.2.2.1.2, .int .i64 p.2.2.2.1.1, .int .i64 p.2.2.2.1.2, .int .i64 p.2.2.2.2.1.1, .int .i64 p.2.2.2.2.1.2, .int .i64 p.2.2.2.2.2.1, .int .i64 p.2.2.2.2.2.2] 26) (b := w.heap.size + 1) (by simp)); have hB := heap_old hb1 (heap_alloc (X := (.cells #[.int .i64 p.1.1, .int .i64 p.1.2, .int .i64 p.2.1.1, .int .i64 p.2.1.2, .int .i64 p.2.2.1.1, .int .i64 p.2.2.1.2, .int .i64 p.2.2.2.1.1, .int .i64 p.2.2.2.1.2, .int .i64 p.2.2.2.2.1.1, .int .i64 p.2.2.2.2.1.2, .int .i64 p.2.2.2.2.2.1, .int .i64 p.2.2.2.2.2.2] 26)) (heap_new w (.cells #[v, .bool left, .bool shot, .bool bat, .bool void] 43) rfl)); have hK := Below.next2 (Below.refl w.heap.size w) (Nat.le_refl _) hb1; clear hb1; (have b0 := cell_heap (o := 0) hB rfl; have b1 := cell_heap (o := 1) hB rfl; have b2 := cell_heap (o := 2) hB rfl; have b3 := cell_heap (o := 3) hB rfl; have b4 := cell_heap (o := 4) hB rfl)) | (go_at_call 18; refine (hfew.out _ (hS.out.below hK)).mono ?_; rintro e w2 ⟨rfl, hb2⟩; replace hT := heap_old hb2 hT; replace hB := heap_old hb2 hB; replace hK := Below.next hK (Nat.le_refl _) hb2; clear hb2; (clear b0 b1 b2 b3 b4); (have b0 := cell_heap (o := 0) hB rfl; have b1 := cell_heap (o := 1) hB rfl; have b2 := cell_heap (o := 2) hB rfl; have b3 := cell_heap (o := 3) hB rfl; have b4 := cell_heap (o := 4) hB rfl)) | (go_at_call 23; refine (hdec.out _ (hS.out.below hK)).mono ?_; rintro e w3 ⟨rfl, hb3⟩; replace hT := heap_alloc (X := (.cells #[.int .u8 CALL, .int .u8 c2, .int .u8 c3, .int .u8 c4] 47)) (heap_old hb3 hT); replace hB := heap_alloc (X := (.cells #[.int .u8 CALL, .int .u8 c2, .int .u8 c3, .int .u8 c4] 47)) (heap_old hb3 hB); have hV := heap_new w3 (.cells #[.int .u8 CALL, .int .u8 c2, .int .u8 c3, .int .u8 c4] 47) rfl; replace hK := Below.next hK (Nat.le_refl _) hb3; replace hK := hK.alloc hK.size (.cells #[.int .u8 CALL, .int .u8 c2, .int .u8 c3, .int .u8 c4] 47); clear hb3; (clear b0 b1 b2 b3 b4); (have s0 := cell_heap (o := 0) hT rfl; have s1 := cell_heap (o := 1) hT rfl; have s2 := cell_heap (o := 2) hT rfl; have s3 := cell_heap (o := 3) hT rfl; have s4 := cell_heap (o := 4) hT rfl; have s5 := cell_heap (o := 5) hT rfl; have s6 := cell_heap (o := 6) hT rfl; have s7 := cell_heap (o := 7) hT rfl; have s8 := cell_heap (o := 8) hT rfl; have s9 := cell_heap (o := 9) hT rfl; have s10 := cell_heap (o := 10) hT rfl; have s11 := cell_heap (o := 11) hT rfl)) | (go_at_call 24; refine (crossing_ex p _).mono ?_; rintro e w4 ⟨⟨n, d, ok, rfl⟩, hb4⟩; (replace hT := heap_old hb4 hT; replace hB := heap_old hb4 hB; replace hV := heap_old hb4 hV; replace hK := Below.next hK (Nat.le_refl _) hb4; clear hb4; (clear s0 s1 s2 s3 s4 s5 s6 s7 s8 s9 s10 s11); (have s0 := cell_heap (o := 0) hT rfl; have s1 := cell_heap (o := 1) hT rfl; have s2 := cell_heap (o := 2) hT rfl; have s3 := cell_heap (o := 3) hT rfl; have s4 := cell_heap (o := 4) hT rfl; have s5 := cell_heap (o := 5) hT rfl; have s6 := cell_heap (o := 6) hT rfl; have s7 := cell_heap (o := 7) hT rfl; have s8 := cell_heap (o := 8) hT rfl; have s9 := cell_heap (o := 9) hT rfl; have s10 := cell_heap (o := 10) hT rfl; have s11 := cell_heap (o := 11) hT rfl); (have b0 := cell_heap (o := 0) hB rfl; have b1 := cell_heap (o := 1) hB rfl; have b2 := cell_heap (o := 2) hB rfl; have b3 := cell_heap (o := 3) hB rfl; have b4 := cell_heap (o := 4) hB rfl))))
  go_ret
  exact ⟨rfl, hK⟩
set_option maxRecDepth 100000 in
set_option maxHeartbeats 4000000 in
theorem topDec_not (v : Value) (l : List SN) (left shot bat void : Bool) (p : TR) (w : World) (h : Seens w v l) (hc : l.length ≤ 10) (hf : fitT l p = false) (CALL c2 c3 c4 : Int) (hde : ∀ w', Seens w' v l → Calls Try.prog 23 #[(.agg #[v, .bool left, .bool shot, .bool bat, .bool void])] w' fun e w'' => e = .returned (.tuple #[.agg #[.int .u8 CALL, .int .u8 c2, .int .u8 c3, .int .u8 c4], .int .i64 0]) ∧ Below w'.heap.size w' w'') : Calls Try.prog 4 #[(.agg #[v, .bool left, .bool shot, .bool bat, .bool void]), (.agg #[.int .i64 p.1.1, .int .i64 p.1.2, .int .i64 p.2.1.1, .int .i64 p.2.1.2, .int .i64 p.2.2.1.1, .int .i64 p.2.2.1.2, .int .i64 p.2.2.2.1.1, .int .i64 p.2.2.2.1.2, .int .i64 p.2.2.2.2.1.1, .int .i64 p.2.2.2.2.1.2, .int .i64 p.2.2.2.2.2.1, .int .i64 p.2.2.2.2.2.2])] w fun e w' => e = .returned (.bool true) ∧ Below w.heap.size w w' := by
  have hfew := Lib.hid (fun w' (h : Seens w' v l) => by have := seenFew_any v l w' h; rwa [decide_eq_true hc] at this)
  have hfit := Lib.hid (fun w' (h : Seens w' v l) => by have := pathFits_any v l p w' h; rwa [hf] at this)
  have hdec := Lib.hid hde
  have hS := Lib.hid h
  clear hc h hde hf
  go_enter Try.func4, Try.ntmps4
  go_wp2_with (first | (go_at_call 17; refine (trackAwake_any _).mono ?_; rintro e w1 ⟨rfl, hb1⟩; have hT := heap_old hb1 (heap_new (w.alloc (.cells #[v, .bool left, .bool shot, .bool bat, .bool void] 43)) (.cells #[.int .i64 p.1.1, .int .i64 p.1.2, .int .i64 p.2.1.1, .int .i64 p.2.1.2, .int .i64 p.2.2.1.1, .int .i64 p.2.2.1.2, .int .i64 p.2.2.2.1.1, .int .i64 p.2.2.2.1.2, .int .i64 p.2.2.2.2.1.1, .int .i64 p.2.2.2.2.1.2, .int .i64 p.2.2.2.2.2.1, .int .i64 p.2.2.2.2.2.2] 26) (b := w.heap.size + 1) (by simp)); have hB := heap_old hb1 (heap_alloc (X := (.cells #[.int .i64 p.1.1, .int .i64 p.1.2, .int .i64 p.2.1.1, .int .i64 p.2.1.2, .int .i64 p.2.2.1.1, .int .i64 p.2.2.1.2, .int .i64 p.2.2.2.1.1, .int .i64 p.2.2.2.1.2, .int .i64 p.2.2.2.2.1.1, .int .i64 p.2.2.2.2.1.2, .int .i64 p.2.2.2.2.2.1, .int .i64 p.2.2.2.2.2.2] 26)) (heap_new w (.cells #[v, .bool left, .bool shot, .bool bat, .bool void] 43) rfl)); have hK := Below.next2 (Below.refl w.heap.size w) (Nat.le_refl _) hb1; clear hb1; (have b0 := cell_heap (o := 0) hB rfl; have b1 := cell_heap (o := 1) hB rfl; have b2 := cell_heap (o := 2) hB rfl; have b3 := cell_heap (o := 3) hB rfl; have b4 := cell_heap (o := 4) hB rfl)) | (go_at_call 18; refine (hfew.out _ (hS.out.below hK)).mono ?_; rintro e w2 ⟨rfl, hb2⟩; replace hT := heap_old hb2 hT; replace hB := heap_old hb2 hB; replace hK := Below.next hK (Nat.le_refl _) hb2; clear hb2; (clear b0 b1 b2 b3 b4); (have b0 := cell_heap (o := 0) hB rfl; have b1 := cell_heap (o := 1) hB rfl; have b2 := cell_heap (o := 2) hB rfl; have b3 := cell_heap (o := 3) hB rfl; have b4 := cell_heap (o := 4) hB rfl)) | (go_at_call 23; refine (hdec.out _ (hS.out.below hK)).mono ?_; rintro e w3 ⟨rfl, hb3⟩; replace hT := heap_alloc (X := (.cells #[.int .u8 CALL, .int .u8 c2, .int .u8 c3, .int .u8 c4] 47)) (heap_old hb3 hT); replace hB := heap_alloc (X := (.cells #[.int .u8 CALL, .int .u8 c2, .int .u8 c3, .int .u8 c4] 47)) (heap_old hb3 hB); have hV := heap_new w3 (.cells #[.int .u8 CALL, .int .u8 c2, .int .u8 c3, .int .u8 c4] 47) rfl; replace hK := Below.next hK (Nat.le_refl _) hb3; replace hK := hK.alloc hK.size (.cells #[.int .u8 CALL, .int .u8 c2, .int .u8 c3, .int .u8 c4] 47); clear hb3; (clear b0 b1 b2 b3 b4); (have s0 := cell_heap (o := 0) hT rfl; have s1 := cell_heap (o := 1) hT rfl; have s2 := cell_heap (o := 2) hT rfl; have s3 := cell_heap (o := 3) hT rfl; have s4 := cell_heap (o := 4) hT rfl; have s5 := cell_heap (o := 5) hT rfl; have s6 := cell_heap (o := 6) hT rfl; have s7 := cell_heap (o := 7) hT rfl; have s8 := cell_heap (o := 8) hT rfl; have s9 := cell_heap (o := 9) hT rfl; have s10 := cell_heap (o := 10) hT rfl; have s11 := cell_heap (o := 11) hT rfl)) | (go_at_call 24; refine (crossing_ex p _).mono ?_; rintro e w4 ⟨⟨n, d, ok, rfl⟩, hb4⟩; (replace hT := heap_old hb4 hT; replace hB := heap_old hb4 hB; replace hV := heap_old hb4 hV; replace hK := Below.next hK (Nat.le_refl _) hb4; clear hb4; (clear s0 s1 s2 s3 s4 s5 s6 s7 s8 s9 s10 s11); (have s0 := cell_heap (o := 0) hT rfl; have s1 := cell_heap (o := 1) hT rfl; have s2 := cell_heap (o := 2) hT rfl; have s3 := cell_heap (o := 3) hT rfl; have s4 := cell_heap (o := 4) hT rfl; have s5 := cell_heap (o := 5) hT rfl; have s6 := cell_heap (o := 6) hT rfl; have s7 := cell_heap (o := 7) hT rfl; have s8 := cell_heap (o := 8) hT rfl; have s9 := cell_heap (o := 9) hT rfl; have s10 := cell_heap (o := 10) hT rfl; have s11 := cell_heap (o := 11) hT rfl); (have b0 := cell_heap (o := 0) hB rfl; have b1 := cell_heap (o := 1) hB rfl; have b2 := cell_heap (o := 2) hB rfl; have b3 := cell_heap (o := 3) hB rfl; have b4 := cell_heap (o := 4) hB rfl))) | (go_at_call 19; refine (hfit.out _ (hS.out.below hK)).mono ?_; rintro e w5 ⟨rfl, hb5⟩; replace hT := heap_old hb5 hT; replace hB := heap_old hb5 hB; replace hV := heap_old hb5 hV; replace hK := Below.next hK (Nat.le_refl _) hb5; clear hb5; (clear s0 s1 s2 s3 s4 s5 s6 s7 s8 s9 s10 s11); (clear b0 b1 b2 b3 b4); (have b0 := cell_heap (o := 0) hB rfl; have b1 := cell_heap (o := 1) hB rfl; have b2 := cell_heap (o := 2) hB rfl; have b3 := cell_heap (o := 3) hB rfl; have b4 := cell_heap (o := 4) hB rfl)))
  all_goals
    go_ret
    exact ⟨rfl, hK⟩
set_option maxRecDepth 100000 in
set_option maxHeartbeats 4000000 in
theorem topDec_far (v : Value) (l : List SN) (left shot bat void : Bool) (p : TR) (w : World) (h : Seens w v l) (hc : l.length ≤ 10) (n d : Int) (hcr : ∀ w, Calls Try.prog 24 #[(.agg #[.int .i64 p.1.1, .int .i64 p.1.2, .int .i64 p.2.1.1, .int .i64 p.2.1.2, .int .i64 p.2.2.1.1, .int .i64 p.2.2.1.2, .int .i64 p.2.2.2.1.1, .int .i64 p.2.2.2.1.2, .int .i64 p.2.2.2.2.1.1, .int .i64 p.2.2.2.2.1.2, .int .i64 p.2.2.2.2.2.1, .int .i64 p.2.2.2.2.2.2])] w fun e w' => e = .returned (.tuple #[.int .i64 n, .int .i64 d, .bool false]) ∧ Below w.heap.size w w') (CALL c2 c3 c4 : Int) (hde : ∀ w', Seens w' v l → Calls Try.prog 23 #[(.agg #[v, .bool left, .bool shot, .bool bat, .bool void])] w' fun e w'' => e = .returned (.tuple #[.agg #[.int .u8 CALL, .int .u8 c2, .int .u8 c3, .int .u8 c4], .int .i64 0]) ∧ Below w'.heap.size w' w'') : Calls Try.prog 4 #[(.agg #[v, .bool left, .bool shot, .bool bat, .bool void]), (.agg #[.int .i64 p.1.1, .int .i64 p.1.2, .int .i64 p.2.1.1, .int .i64 p.2.1.2, .int .i64 p.2.2.1.1, .int .i64 p.2.2.1.2, .int .i64 p.2.2.2.1.1, .int .i64 p.2.2.2.1.2, .int .i64 p.2.2.2.2.1.1, .int .i64 p.2.2.2.2.1.2, .int .i64 p.2.2.2.2.2.1, .int .i64 p.2.2.2.2.2.2])] w fun e w' => e = .returned (.bool true) ∧ Below w.heap.size w w' := by
  have hfew := Lib.hid (fun w' (h : Seens w' v l) => by have := seenFew_any v l w' h; rwa [decide_eq_true hc] at this)
  have hcro := Lib.hid hcr
  have hdec := Lib.hid hde
  have hS := Lib.hid h
  clear hc h hde hcr
  go_enter Try.func4, Try.ntmps4
  go_wp2_with (first | (go_at_call 17; refine (trackAwake_any _).mono ?_; rintro e w1 ⟨rfl, hb1⟩; have hT := heap_old hb1 (heap_new (w.alloc (.cells #[v, .bool left, .bool shot, .bool bat, .bool void] 43)) (.cells #[.int .i64 p.1.1, .int .i64 p.1.2, .int .i64 p.2.1.1, .int .i64 p.2.1.2, .int .i64 p.2.2.1.1, .int .i64 p.2.2.1.2, .int .i64 p.2.2.2.1.1, .int .i64 p.2.2.2.1.2, .int .i64 p.2.2.2.2.1.1, .int .i64 p.2.2.2.2.1.2, .int .i64 p.2.2.2.2.2.1, .int .i64 p.2.2.2.2.2.2] 26) (b := w.heap.size + 1) (by simp)); have hB := heap_old hb1 (heap_alloc (X := (.cells #[.int .i64 p.1.1, .int .i64 p.1.2, .int .i64 p.2.1.1, .int .i64 p.2.1.2, .int .i64 p.2.2.1.1, .int .i64 p.2.2.1.2, .int .i64 p.2.2.2.1.1, .int .i64 p.2.2.2.1.2, .int .i64 p.2.2.2.2.1.1, .int .i64 p.2.2.2.2.1.2, .int .i64 p.2.2.2.2.2.1, .int .i64 p.2.2.2.2.2.2] 26)) (heap_new w (.cells #[v, .bool left, .bool shot, .bool bat, .bool void] 43) rfl)); have hK := Below.next2 (Below.refl w.heap.size w) (Nat.le_refl _) hb1; clear hb1; (have b0 := cell_heap (o := 0) hB rfl; have b1 := cell_heap (o := 1) hB rfl; have b2 := cell_heap (o := 2) hB rfl; have b3 := cell_heap (o := 3) hB rfl; have b4 := cell_heap (o := 4) hB rfl)) | (go_at_call 18; refine (hfew.out _ (hS.out.below hK)).mono ?_; rintro e w2 ⟨rfl, hb2⟩; replace hT := heap_old hb2 hT; replace hB := heap_old hb2 hB; replace hK := Below.next hK (Nat.le_refl _) hb2; clear hb2; (clear b0 b1 b2 b3 b4); (have b0 := cell_heap (o := 0) hB rfl; have b1 := cell_heap (o := 1) hB rfl; have b2 := cell_heap (o := 2) hB rfl; have b3 := cell_heap (o := 3) hB rfl; have b4 := cell_heap (o := 4) hB rfl)) | (go_at_call 23; refine (hdec.out _ (hS.out.below hK)).mono ?_; rintro e w3 ⟨rfl, hb3⟩; replace hT := heap_alloc (X := (.cells #[.int .u8 CALL, .int .u8 c2, .int .u8 c3, .int .u8 c4] 47)) (heap_old hb3 hT); replace hB := heap_alloc (X := (.cells #[.int .u8 CALL, .int .u8 c2, .int .u8 c3, .int .u8 c4] 47)) (heap_old hb3 hB); have hV := heap_new w3 (.cells #[.int .u8 CALL, .int .u8 c2, .int .u8 c3, .int .u8 c4] 47) rfl; replace hK := Below.next hK (Nat.le_refl _) hb3; replace hK := hK.alloc hK.size (.cells #[.int .u8 CALL, .int .u8 c2, .int .u8 c3, .int .u8 c4] 47); clear hb3; (clear b0 b1 b2 b3 b4); (have s0 := cell_heap (o := 0) hT rfl; have s1 := cell_heap (o := 1) hT rfl; have s2 := cell_heap (o := 2) hT rfl; have s3 := cell_heap (o := 3) hT rfl; have s4 := cell_heap (o := 4) hT rfl; have s5 := cell_heap (o := 5) hT rfl; have s6 := cell_heap (o := 6) hT rfl; have s7 := cell_heap (o := 7) hT rfl; have s8 := cell_heap (o := 8) hT rfl; have s9 := cell_heap (o := 9) hT rfl; have s10 := cell_heap (o := 10) hT rfl; have s11 := cell_heap (o := 11) hT rfl)) | (go_at_call 24; refine (hcro.out _).mono ?_; rintro e w4 ⟨rfl, hb4⟩; (replace hT := heap_old hb4 hT; replace hB := heap_old hb4 hB; replace hV := heap_old hb4 hV; replace hK := Below.next hK (Nat.le_refl _) hb4; clear hb4; (clear s0 s1 s2 s3 s4 s5 s6 s7 s8 s9 s10 s11); (have s0 := cell_heap (o := 0) hT rfl; have s1 := cell_heap (o := 1) hT rfl; have s2 := cell_heap (o := 2) hT rfl; have s3 := cell_heap (o := 3) hT rfl; have s4 := cell_heap (o := 4) hT rfl; have s5 := cell_heap (o := 5) hT rfl; have s6 := cell_heap (o := 6) hT rfl; have s7 := cell_heap (o := 7) hT rfl; have s8 := cell_heap (o := 8) hT rfl; have s9 := cell_heap (o := 9) hT rfl; have s10 := cell_heap (o := 10) hT rfl; have s11 := cell_heap (o := 11) hT rfl); (have b0 := cell_heap (o := 0) hB rfl; have b1 := cell_heap (o := 1) hB rfl; have b2 := cell_heap (o := 2) hB rfl; have b3 := cell_heap (o := 3) hB rfl; have b4 := cell_heap (o := 4) hB rfl))))
  all_goals
    go_ret
    exact ⟨rfl, hK⟩
end Go.Proofs.Ytmdledlbkdcmnaa

/-
  The walk of the statement on decisions, through the layers: the walk.
  Conditions: none.
-/
namespace Go.Proofs.Ytmdledlbkdcmnaa
open Go.RowKit
theorem decCall_off {l : List SN} {left shot bat void : Bool} (h : bat = true ∨ void = true) : decCall l left shot bat void = 2 := by
  unfold decCall ruleV
  rw [if_pos (by rcases h with h | h <;> simp [h])]
theorem dec_fin {bat void bL bM lg ln h1 h0 : Bool} {CALL C2 : Int} (F1 : bat = true ∨ void = true → CALL = 2) (F2 : bat = false → void = false → CALL = C2) (F3 : C2 = 1 → lg = false ∧ ln = true ∧ h1 = true) (F4 : C2 = 2 → lg = true ∨ ln = false ∨ h0 = false) (F5 : C2 = 1 ∨ C2 = 2 ∨ C2 = 3) (e1 : bL = lg) (e2 : bM = ln) :
    (bat = true ∧ CALL = 2) ∨ (bat = false ∧ void = true ∧ CALL = 2) ∨ (bat = false ∧ void = false ∧ CALL = 1 ∧ bL = false ∧ bM = true ∧ h1 = true) ∨ (bat = false ∧ void = false ∧ CALL = 2 ∧ bL = true) ∨ (bat = false ∧ void = false ∧ CALL = 2 ∧ bL = false ∧ bM = false) ∨ (bat = false ∧ void = false ∧ CALL = 2 ∧ bL = false ∧ bM = true ∧ h0 = false) ∨ (bat = false ∧ void = false ∧ CALL = 3) := by
  subst e1 e2
  cases bat
  · cases void
    · have e := F2 rfl rfl
      subst e
      rcases F5 with rfl | rfl | rfl
      · obtain ⟨a, b, c⟩ := F3 rfl
        exact .inr (.inr (.inl ⟨rfl, rfl, rfl, a, b, c⟩))
      · have := F4 rfl
        cases bL
        · cases bM
          · simp
          · simpa using this
        · simp
      · simp
    · exact .inr (.inl ⟨rfl, rfl, F1 (.inr rfl)⟩)
  · exact .inl ⟨rfl, F1 (.inl rfl)⟩
set_option maxRecDepth 100000 in
set_option maxHeartbeats 8000000 in
theorem topDec_b (v : Value) (l : List SN) (left shot bat void : Bool) (p : TR) (w : World) (h : Seens w v l) (hc : l.length ≤ 10) (hb0 : behE l = 0) (hf : fitT l p = true) (hq : bncK l ≠ 0) (n0 d0 : Int) (en : n0 = (ordA p.1 p.2.1).2 * (ordB p.1 p.2.1).1 - (ordB p.1 p.2.1).2 * (ordA p.1 p.2.1).1) (ed : d0 = (ordA p.1 p.2.1).2 - (ordB p.1 p.2.1).2) (hn0 : 0 ≤ n0 ∧ n0 ≤ 1099511627776) (hd0 : 0 < d0 ∧ d0 ≤ 67108864) (hcr : ∀ w, Calls Try.prog 24 #[(.agg #[.int .i64 p.1.1, .int .i64 p.1.2, .int .i64 p.2.1.1, .int .i64 p.2.1.2, .int .i64 p.2.2.1.1, .int .i64 p.2.2.1.2, .int .i64 p.2.2.2.1.1, .int .i64 p.2.2.2.1.2, .int .i64 p.2.2.2.2.1.1, .int .i64 p.2.2.2.2.1.2, .int .i64 p.2.2.2.2.2.1, .int .i64 p.2.2.2.2.2.2])] w fun e w' => e = .returned (.tuple #[.int .i64 n0, .int .i64 d0, .bool true]) ∧ Below w.heap.size w w') (y1 : smallP 33554432 p.2.2.1) (y2 : smallP 33554432 p.2.2.2.1) :
    Calls Try.prog 4 #[.agg #[v, .bool left, .bool shot, .bool bat, .bool void], (.agg #[.int .i64 p.1.1, .int .i64 p.1.2, .int .i64 p.2.1.1, .int .i64 p.2.1.2, .int .i64 p.2.2.1.1, .int .i64 p.2.2.1.2, .int .i64 p.2.2.2.1.1, .int .i64 p.2.2.2.1.2, .int .i64 p.2.2.2.2.1.1, .int .i64 p.2.2.2.2.1.2, .int .i64 p.2.2.2.2.2.1, .int .i64 p.2.2.2.2.2.2])] w fun e w' => e = .returned (.bool true) ∧ Below w.heap.size w w' := by
  obtain ⟨f0, f1, f2⟩ := fitT_parts hf
  obtain ⟨_, _, dx, ox, fx⟩ := pfB_all f0
  obtain ⟨_, _, dy, oy, fy⟩ := pfB_all f1
  obtain ⟨_, _, dz, oz, fz⟩ := pfB_all f2
  obtain ⟨D1, D2, D3⟩ := decided (left := left) (shot := shot) hb0 dx dy dz fx fy fz
  rw [← en, ← ed] at D1 D2
  have hoff := decCall_off (l := l) (left := left) (shot := shot) (bat := bat) (void := void)
  have hon : bat = false → void = false → decCall l left shot bat void = decCall l left shot false false := fun a b => by rw [a, b]
  unfold legB lineB at D1 D2
  have hsp0 := fun (t lo hi : Int) (g1 : 0 ≤ t ∧ t ≤ 5000) (g2 : -1099511627776 ≤ lo ∧ lo ≤ 1099511627776) (g3 : -1099511627776 ≤ hi ∧ hi ≤ 1099511627776) (w : World) => spot_any v left shot bat void p t lo hi oy dy g1.1 g1.2 g2.1 g2.2 g3.1 g3.2 w
  have hhit0 := fun (m : Int) (g1 : 0 ≤ m ∧ m ≤ 180) (w : World) => hits_any p n0 d0 m y1 y2 oz hn0 hd0 g1.1 g1.2 w
  generalize hitsB (ordA p.2.2.1 p.2.2.2.1) (ordB p.2.2.1 p.2.2.2.1) (ordA p.2.2.2.2.1 p.2.2.2.2.2) (ordB p.2.2.2.2.1 p.2.2.2.2.2) n0 d0 = HB at *
  generalize spotB (ordA p.2.2.1 p.2.2.2.1) (ordB p.2.2.1 p.2.2.2.1) left = SP at *
  have hfew := Lib.hid (fun w' (h : Seens w' v l) => by have := seenFew_any v l w' h; rwa [decide_eq_true hc] at this)
  have hfit := Lib.hid (fun w' (h : Seens w' v l) => by have := pathFits_any v l p w' h; rwa [hf] at this)
  have hdec := Lib.hid (fun w' (h : Seens w' v l) => by have := decide_any v l left shot bat void w' h; unfold decV at this; rwa [if_pos hb0] at this)
  have hbo := Lib.hid (fun w' (h : Seens w' v l) => by have := bounce_ok v l w' h; rwa [show bncQ l = true from by unfold bncQ; simp [hq]] at this)
  have hcro := Lib.hid hcr
  have hn := beh_pos hb0
  have hch := (behE_len hb0).1
  have hk := bncK_lt' (l := l) (by omega)
  have hs : l[bncK l]? = some (atS l (bncK l)) := by unfold atS; rw [List.getElem?_eq_getElem hk]
  have hso := (okS_iff.1 (chkE_ok hch _ (atS_mem hk))).1
  have hr : l[l.length - 1]? = some (atS l (l.length - 1)) := by unfold atS; rw [List.getElem?_eq_getElem (show l.length - 1 < l.length by omega)]
  have hro := (okS_iff.1 (chkE_ok hch _ (atS_mem (show l.length - 1 < l.length by omega)))).1
  have hsp := Lib.hid hsp0
  have hhit := Lib.hid hhit0
  have FIN := Lib.hid (And.intro hoff (And.intro hon (And.intro D1 (And.intro D2 D3))))
  clear D1 D2 D3 hoff hon hsp0 hhit0 f0 f1 f2 dx dy dz ox oy oz fx fy fz en ed hcr hn0 hd0 hb0 hf hch y1 y2
  generalize decCall l left shot bat void = CALL at *
  generalize decCall l left shot false false = CAL2 at *
  generalize decLine l left shot = c3 at *
  generalize decLeg l left = c2 at *
  generalize decWkt l left = c4 at *
  generalize atS l (bncK l) = s at *
  generalize atS l (l.length - 1) = r at *
  generalize bncK l = kb at *
  obtain ⟨n, hnl⟩ : ∃ n, l.length = n + 1 := ⟨l.length - 1, by omega⟩
  have hn10 : n ≤ 10 := by omega
  have hR0 := Lib.hid hr
  have hS0 := Lib.hid hs
  have hkn : kb < n + 1 := by omega
  have hS := Lib.hid h
  clear hs hr hn hc hk
  obtain ⟨pa, b, o, cap, rfl, g1, g2, g3, g4⟩ := h
  have hcap : cap ≤ 9223372036854775807 := by unfold maxLen at g3; omega
  obtain rfl := g1 (by omega)
  have hrr := hR0.out
  rw [hnl, Nat.add_sub_cancel] at hrr
  have hC0 := Lib.hid (g4 n r hrr)
  have hD0 := Lib.hid (g4 kb s hS0.out)
  rw [hnl] at g2 hS hfew hfit hdec hbo hsp ⊢
  clear g4 hrr hR0 g1 hS0 hnl
  skip
  go_enter Try.func4, Try.ntmps4
  go_wp2_with (first
    | (go_at_call 17; refine (trackAwake_any _).mono ?_; rintro e w1 ⟨rfl, hb1⟩; have gT := heap_old hb1 (heap_new (w.alloc (.cells #[(.slice (some ⟨b, o, none⟩) (n + 1) cap), .bool left, .bool shot, .bool bat, .bool void] 43)) (.cells #[.int .i64 p.1.1, .int .i64 p.1.2, .int .i64 p.2.1.1, .int .i64 p.2.1.2, .int .i64 p.2.2.1.1, .int .i64 p.2.2.1.2, .int .i64 p.2.2.2.1.1, .int .i64 p.2.2.2.1.2, .int .i64 p.2.2.2.2.1.1, .int .i64 p.2.2.2.2.1.2, .int .i64 p.2.2.2.2.2.1, .int .i64 p.2.2.2.2.2.2] 26) (b := w.heap.size + 1) (by simp)); have gB := heap_old hb1 (heap_alloc (X := (.cells #[.int .i64 p.1.1, .int .i64 p.1.2, .int .i64 p.2.1.1, .int .i64 p.2.1.2, .int .i64 p.2.2.1.1, .int .i64 p.2.2.1.2, .int .i64 p.2.2.2.1.1, .int .i64 p.2.2.2.1.2, .int .i64 p.2.2.2.2.1.1, .int .i64 p.2.2.2.2.1.2, .int .i64 p.2.2.2.2.2.1, .int .i64 p.2.2.2.2.2.2] 26)) (heap_new w (.cells #[(.slice (some ⟨b, o, none⟩) (n + 1) cap), .bool left, .bool shot, .bool bat, .bool void] 43) rfl)); have hK := Below.next2 (Below.refl w.heap.size w) (Nat.le_refl _) hb1; clear hb1; (have b0 := cell_heap (o := 0) gB rfl; have b1 := cell_heap (o := 1) gB rfl; have b2 := cell_heap (o := 2) gB rfl; have b3 := cell_heap (o := 3) gB rfl; have b4 := cell_heap (o := 4) gB rfl))
    | (go_at_call 18; refine (hfew.out _ (hS.out.below hK)).mono ?_; rintro e w2 ⟨rfl, hb2⟩; replace gT := heap_old hb2 gT; replace gB := heap_old hb2 gB; replace hK := Below.next hK (Nat.le_refl _) hb2; clear hb2; (clear b0 b1 b2 b3 b4); (have b0 := cell_heap (o := 0) gB rfl; have b1 := cell_heap (o := 1) gB rfl; have b2 := cell_heap (o := 2) gB rfl; have b3 := cell_heap (o := 3) gB rfl; have b4 := cell_heap (o := 4) gB rfl))
    | (go_at_call 23; refine (hdec.out _ (hS.out.below hK)).mono ?_; rintro e w3 ⟨rfl, hb3⟩; replace gT := heap_alloc (X := (.cells #[.int .u8 CALL, .int .u8 c2, .int .u8 c3, .int .u8 c4] 47)) (heap_old hb3 gT); replace gB := heap_alloc (X := (.cells #[.int .u8 CALL, .int .u8 c2, .int .u8 c3, .int .u8 c4] 47)) (heap_old hb3 gB); have gV := heap_new w3 (.cells #[.int .u8 CALL, .int .u8 c2, .int .u8 c3, .int .u8 c4] 47) rfl; replace hK := Below.next hK (Nat.le_refl _) hb3; replace hK := hK.alloc hK.size (.cells #[.int .u8 CALL, .int .u8 c2, .int .u8 c3, .int .u8 c4] 47); clear hb3; (clear b0 b1 b2 b3 b4); (have s0 := cell_heap (o := 0) gT rfl; have s1 := cell_heap (o := 1) gT rfl; have s2 := cell_heap (o := 2) gT rfl; have s3 := cell_heap (o := 3) gT rfl; have s4 := cell_heap (o := 4) gT rfl; have s5 := cell_heap (o := 5) gT rfl; have s6 := cell_heap (o := 6) gT rfl; have s7 := cell_heap (o := 7) gT rfl; have s8 := cell_heap (o := 8) gT rfl; have s9 := cell_heap (o := 9) gT rfl; have s10 := cell_heap (o := 10) gT rfl; have s11 := cell_heap (o := 11) gT rfl))
    | (go_at_call 24; refine (hcro.out _).mono ?_; rintro e w4 ⟨rfl, hb4⟩; (replace gT := heap_old hb4 gT; replace gB := heap_old hb4 gB; replace gV := heap_old hb4 gV; replace hK := Below.next hK (Nat.le_refl _) hb4; clear hb4; (clear s0 s1 s2 s3 s4 s5 s6 s7 s8 s9 s10 s11); (have s0 := cell_heap (o := 0) gT rfl; have s1 := cell_heap (o := 1) gT rfl; have s2 := cell_heap (o := 2) gT rfl; have s3 := cell_heap (o := 3) gT rfl; have s4 := cell_heap (o := 4) gT rfl; have s5 := cell_heap (o := 5) gT rfl; have s6 := cell_heap (o := 6) gT rfl; have s7 := cell_heap (o := 7) gT rfl; have s8 := cell_heap (o := 8) gT rfl; have s9 := cell_heap (o := 9) gT rfl; have s10 := cell_heap (o := 10) gT rfl; have s11 := cell_heap (o := 11) gT rfl); (have b0 := cell_heap (o := 0) gB rfl; have b1 := cell_heap (o := 1) gB rfl; have b2 := cell_heap (o := 2) gB rfl; have b3 := cell_heap (o := 3) gB rfl; have b4 := cell_heap (o := 4) gB rfl)))
    | (go_at_call 19; refine (hfit.out _ (hS.out.below hK)).mono ?_; rintro e w5 ⟨rfl, hb5⟩; replace gT := heap_old hb5 gT; replace gB := heap_old hb5 gB; replace gV := heap_old hb5 gV; replace hK := Below.next hK (Nat.le_refl _) hb5; clear hb5; (clear s0 s1 s2 s3 s4 s5 s6 s7 s8 s9 s10 s11); (clear b0 b1 b2 b3 b4); (have b0 := cell_heap (o := 0) gB rfl; have b1 := cell_heap (o := 1) gB rfl; have b2 := cell_heap (o := 2) gB rfl; have b3 := cell_heap (o := 3) gB rfl; have b4 := cell_heap (o := 4) gB rfl))
    | (go_at_call 25; refine (hbo.out _ (hS.out.below hK)).mono ?_; rintro e w6 ⟨rfl, hb6⟩; replace gT := heap_old hb6 gT; replace gB := heap_old hb6 gB; replace gV := heap_old hb6 gV; replace hK := Below.next hK (Nat.le_refl _) hb6; clear hb6; (clear b0 b1 b2 b3 b4); (have b0 := cell_heap (o := 0) gB rfl; have b1 := cell_heap (o := 1) gB rfl; have b2 := cell_heap (o := 2) gB rfl; have b3 := cell_heap (o := 3) gB rfl; have b4 := cell_heap (o := 4) gB rfl); (have s0 := cell_heap (o := 0) gT rfl; have s1 := cell_heap (o := 1) gT rfl; have s2 := cell_heap (o := 2) gT rfl; have s3 := cell_heap (o := 3) gT rfl; have s4 := cell_heap (o := 4) gT rfl; have s5 := cell_heap (o := 5) gT rfl; have s6 := cell_heap (o := 6) gT rfl; have s7 := cell_heap (o := 7) gT rfl; have s8 := cell_heap (o := 8) gT rfl; have s9 := cell_heap (o := 9) gT rfl; have s10 := cell_heap (o := 10) gT rfl; have s11 := cell_heap (o := 11) gT rfl); obtain ⟨d0, d1, d2, d3, d4⟩ := SeenAt.below hC0.out hK; clear d1 d2 d3 d4; obtain ⟨j0, j1, j2, j3, j4⟩ := SeenAt.below hD0.out hK; clear j1 j2 j3 j4))
  refine wp_abs (fun a0 a' W2 => ∃ bL t60 t61 t62 t63 t64 t65 t66 t67 t68 t69 t70 t71 t72, a' = ((((((((((((((a0).put (some 60) t60).put (some 61) t61).put (some 62) t62).put (some 63) t63).put (some 64) t64).put (some 65) t65).put (some 66) t66).put (some 67) t67).put (some 68) t68).put (some 69) t69).put (some 70) t70).put (some 71) t71).put (some 72) t72).put (some 13) (.bool bL) ∧ bL = (!SP s.1 (-1143) 1099511627776) ∧ Below w.heap.size w W2 ∧ W2.heap[w.heap.size]? = some (.cells #[(.slice (some ⟨b, o, none⟩) (n + 1) cap), .bool left, .bool shot, .bool bat, .bool void] 43) ∧ W2.heap[w.heap.size + 1]? = some (.cells #[.int .i64 p.1.1, .int .i64 p.1.2, .int .i64 p.2.1.1, .int .i64 p.2.1.2, .int .i64 p.2.2.1.1, .int .i64 p.2.2.1.2, .int .i64 p.2.2.2.1.1, .int .i64 p.2.2.2.1.2, .int .i64 p.2.2.2.2.1.1, .int .i64 p.2.2.2.2.1.2, .int .i64 p.2.2.2.2.2.1, .int .i64 p.2.2.2.2.2.2] 26) ∧ W2.heap[w3.heap.size]? = some (.cells #[.int .u8 CALL, .int .u8 c2, .int .u8 c3, .int .u8 c4] 47)) ?_ ?_
  · have hl := @Later.cell
    refine region_later (by kernel_rfl) (by kernel_rfl) ?_; (repeat (go_big_quiet_step ((go_at_call 26; exact Calls.later (hsp.out _ _ _ (by omega) (by omega) (by omega) _))))); refine wpQuiet_nil ?_; rintro _ ⟨x, rfl⟩; obtain ⟨w', hb⟩ := x; (try clear hc hf); (try clear hcM hfM); (try clear hcN hfN); (first | ((first | replace hB := Below.next hB (Nat.le_refl _) hb | replace hB := Below.next1 hB (Nat.le_refl _) hb | replace hB := Below.next2 hB (Nat.le_refl _) hb); (first | replace hM := Below.next hM (Nat.le_refl _) hb | replace hM := Below.next1 hM (Nat.le_refl _) hb | replace hM := Below.next2 hM (Nat.le_refl _) hb); (first | replace hN := Below.next hN (Nat.le_refl _) hb | replace hN := Below.next1 hN (Nat.le_refl _) hb | replace hN := Below.next2 hN (Nat.le_refl _) hb)) | ((first | replace hB := Below.next hB (Nat.le_refl _) hb | replace hB := Below.next1 hB (Nat.le_refl _) hb | replace hB := Below.next2 hB (Nat.le_refl _) hb); (first | replace hM := Below.next hM (Nat.le_refl _) hb | replace hM := Below.next1 hM (Nat.le_refl _) hb | replace hM := Below.next2 hM (Nat.le_refl _) hb); have hN := Below.mid hb) | ((first | replace hB := Below.next hB (Nat.le_refl _) hb | replace hB := Below.next1 hB (Nat.le_refl _) hb | replace hB := Below.next2 hB (Nat.le_refl _) hb); (first | replace hM := Below.next hM (Nat.le_refl _) hb | replace hM := Below.next1 hM (Nat.le_refl _) hb | replace hM := Below.next2 hM (Nat.le_refl _) hb)) | ((first | replace hB := Below.next hB (Nat.le_refl _) hb | replace hB := Below.next1 hB (Nat.le_refl _) hb | replace hB := Below.next2 hB (Nat.le_refl _) hb); have hM := Below.mid hb) | (first | replace hB := Below.next hB (Nat.le_refl _) hb | replace hB := Below.next1 hB (Nat.le_refl _) hb | replace hB := Below.next2 hB (Nat.le_refl _) hb) | have hB := hb); obtain ⟨hc, hf, hz⟩ := after hB; (try (have hq := after hM; obtain ⟨hcM, hfM, hzM⟩ := hq)); (try (have hq := after hN; obtain ⟨hcN, hfN, hzN⟩ := hq)); have hs := hb.size; (try simp at hz); (try simp at hs)
    dsimp only
    replace gT := heap_old hb gT
    replace gB := heap_old hb gB
    replace gV := heap_old hb gV
    replace hK := Below.next hK (Nat.le_refl _) hb
    refine ⟨?_, ?_, ?_, ?_, ?_, ?_, ?_, ?_, ?_, ?_, ?_, ?_, ?_, ?_, ?eqq, ?rst, hK, gB, gT, gV⟩
    case eqq => (simp only [Act.put, List.setIfInBounds_toArray, List.set_cons_succ, List.set_cons_zero]; rfl)
    case rst => first | rfl | trace_state
  · rintro a' W2 ⟨bL, t60, t61, t62, t63, t64, t65, t66, t67, t68, t69, t70, t71, t72, rfl, hbL, hK2, gB2, gT2, gV2⟩
    simp only [Act.put, List.setIfInBounds_toArray, List.set_cons_succ, List.set_cons_zero]
    (clear b0 b1 b2 b3 b4)
    (clear s0 s1 s2 s3 s4 s5 s6 s7 s8 s9 s10 s11)
    clear hK gB gT gV j0 d0
    have hK := hK2
    have gB := gB2
    have gT := gT2
    have gV := gV2
    clear hK2 gB2 gT2 gV2
    have hBL := Lib.hid hbL
    clear hbL
    rename_i hk
    refine hk _ _ ?_
    clear hk
    (have b0 := cell_heap (o := 0) gB rfl; have b1 := cell_heap (o := 1) gB rfl; have b2 := cell_heap (o := 2) gB rfl; have b3 := cell_heap (o := 3) gB rfl; have b4 := cell_heap (o := 4) gB rfl)
    (have s0 := cell_heap (o := 0) gT rfl; have s1 := cell_heap (o := 1) gT rfl; have s2 := cell_heap (o := 2) gT rfl; have s3 := cell_heap (o := 3) gT rfl; have s4 := cell_heap (o := 4) gT rfl; have s5 := cell_heap (o := 5) gT rfl; have s6 := cell_heap (o := 6) gT rfl; have s7 := cell_heap (o := 7) gT rfl; have s8 := cell_heap (o := 8) gT rfl; have s9 := cell_heap (o := 9) gT rfl; have s10 := cell_heap (o := 10) gT rfl; have s11 := cell_heap (o := 11) gT rfl)
    refine wp_cut1 (fun a0 a' W2 => ∃ bM t73 t74 t75 t76 t77 t78 t79 t80 t81 t82 t83 t84 t85 t86 t87, a' = ((((((((((((((((a0).put (some 73) t73).put (some 74) t74).put (some 75) t75).put (some 76) t76).put (some 77) t77).put (some 78) t78).put (some 79) t79).put (some 80) t80).put (some 81) t81).put (some 82) t82).put (some 83) t83).put (some 84) t84).put (some 85) t85).put (some 86) t86).put (some 87) t87).put (some 14) (.bool bM) ∧ bM = (SP r.1 (-1143) 1099511627776 && (!shot || SP r.1 (-1099511627776) 1143)) ∧ Below w.heap.size w W2 ∧ W2.heap[w.heap.size]? = some (.cells #[(.slice (some ⟨b, o, none⟩) (n + 1) cap), .bool left, .bool shot, .bool bat, .bool void] 43) ∧ W2.heap[w.heap.size + 1]? = some (.cells #[.int .i64 p.1.1, .int .i64 p.1.2, .int .i64 p.2.1.1, .int .i64 p.2.1.2, .int .i64 p.2.2.1.1, .int .i64 p.2.2.1.2, .int .i64 p.2.2.2.1.1, .int .i64 p.2.2.2.1.2, .int .i64 p.2.2.2.2.1.1, .int .i64 p.2.2.2.2.1.2, .int .i64 p.2.2.2.2.2.1, .int .i64 p.2.2.2.2.2.2] 26) ∧ W2.heap[w3.heap.size]? = some (.cells #[.int .u8 CALL, .int .u8 c2, .int .u8 c3, .int .u8 c4] 47)) ?_ ?_
    · intro yy hyy0
      have hyy := Lib.hid hyy0
      clear hyy0
      clear FIN hBL hhit hfew hfit hdec hbo hcro
      go_wp2_with fail
      refine (hsp.out _ _ _ (by omega) (by omega) (by omega) _).mono ?_
      rintro e w7 ⟨rfl, hb7⟩
      replace gT := heap_old hb7 gT
      replace gB := heap_old hb7 gB
      replace gV := heap_old hb7 gV
      replace hK := Below.next hK (Nat.le_refl _) hb7
      clear hb7
      (clear b0 b1 b2 b3 b4)
      (clear s0 s1 s2 s3 s4 s5 s6 s7 s8 s9 s10 s11)
      (have b0 := cell_heap (o := 0) gB rfl; have b1 := cell_heap (o := 1) gB rfl; have b2 := cell_heap (o := 2) gB rfl; have b3 := cell_heap (o := 3) gB rfl; have b4 := cell_heap (o := 4) gB rfl)
      (have s0 := cell_heap (o := 0) gT rfl; have s1 := cell_heap (o := 1) gT rfl; have s2 := cell_heap (o := 2) gT rfl; have s3 := cell_heap (o := 3) gT rfl; have s4 := cell_heap (o := 4) gT rfl; have s5 := cell_heap (o := 5) gT rfl; have s6 := cell_heap (o := 6) gT rfl; have s7 := cell_heap (o := 7) gT rfl; have s8 := cell_heap (o := 8) gT rfl; have s9 := cell_heap (o := 9) gT rfl; have s10 := cell_heap (o := 10) gT rfl; have s11 := cell_heap (o := 11) gT rfl)
      generalize SP r.1 (-1143) 1099511627776 = S2 at *
      cases S2
      · go_wp2_with fail
        refine hyy.out _ _ ⟨?_, ?_, ?_, ?_, ?_, ?_, ?_, ?_, ?_, ?_, ?_, ?_, ?_, ?_, ?_, ?_, ?eqq, ?rst, hK, gB, gT, gV⟩
        case eqq => (simp only [Act.put, List.setIfInBounds_toArray, List.set_cons_succ, List.set_cons_zero]; try rfl)
        case rst => first | rfl | simp
      cases shot
      · go_wp2_with fail
        refine hyy.out _ _ ⟨?_, ?_, ?_, ?_, ?_, ?_, ?_, ?_, ?_, ?_, ?_, ?_, ?_, ?_, ?_, ?_, ?eqq, ?rst, hK, gB, gT, gV⟩
        case eqq => (simp only [Act.put, List.setIfInBounds_toArray, List.set_cons_succ, List.set_cons_zero]; try rfl)
        case rst => first | rfl | simp
      · go_wp2_with fail
        refine (hsp.out _ _ _ (by omega) (by omega) (by omega) _).mono ?_
        rintro e w7 ⟨rfl, hb7⟩
        replace gT := heap_old hb7 gT
        replace gB := heap_old hb7 gB
        replace gV := heap_old hb7 gV
        replace hK := Below.next hK (Nat.le_refl _) hb7
        clear hb7
        (clear b0 b1 b2 b3 b4)
        (clear s0 s1 s2 s3 s4 s5 s6 s7 s8 s9 s10 s11)
        (have b0 := cell_heap (o := 0) gB rfl; have b1 := cell_heap (o := 1) gB rfl; have b2 := cell_heap (o := 2) gB rfl; have b3 := cell_heap (o := 3) gB rfl; have b4 := cell_heap (o := 4) gB rfl)
        (have s0 := cell_heap (o := 0) gT rfl; have s1 := cell_heap (o := 1) gT rfl; have s2 := cell_heap (o := 2) gT rfl; have s3 := cell_heap (o := 3) gT rfl; have s4 := cell_heap (o := 4) gT rfl; have s5 := cell_heap (o := 5) gT rfl; have s6 := cell_heap (o := 6) gT rfl; have s7 := cell_heap (o := 7) gT rfl; have s8 := cell_heap (o := 8) gT rfl; have s9 := cell_heap (o := 9) gT rfl; have s10 := cell_heap (o := 10) gT rfl; have s11 := cell_heap (o := 11) gT rfl)
        generalize SP r.1 (-1099511627776) 1143 = S3 at *
        go_wp2_with fail
        refine hyy.out _ _ ⟨?_, ?_, ?_, ?_, ?_, ?_, ?_, ?_, ?_, ?_, ?_, ?_, ?_, ?_, ?_, ?_, ?eqq, ?rst, hK, gB, gT, gV⟩
        case eqq => (simp only [Act.put, List.setIfInBounds_toArray, List.set_cons_succ, List.set_cons_zero]; try rfl)
        case rst => first | rfl | simp
    · rintro a' W2 ⟨bM, t73, t74, t75, t76, t77, t78, t79, t80, t81, t82, t83, t84, t85, t86, t87, rfl, hbM, hK2, gB2, gT2, gV2⟩
      simp only [Act.put, List.setIfInBounds_toArray, List.set_cons_succ, List.set_cons_zero]
      (clear b0 b1 b2 b3 b4)
      (clear s0 s1 s2 s3 s4 s5 s6 s7 s8 s9 s10 s11)
      clear hK gB gT gV
      have hK := hK2
      have gB := gB2
      have gT := gT2
      have gV := gV2
      clear hK2 gB2 gT2 gV2 hsp hfew hfit hdec hbo hcro
      have hfin : (bat = true ∧ CALL = 2) ∨ (bat = false ∧ void = true ∧ CALL = 2) ∨ (bat = false ∧ void = false ∧ CALL = 1 ∧ bL = false ∧ bM = true ∧ HB 180 = true) ∨ (bat = false ∧ void = false ∧ CALL = 2 ∧ bL = true) ∨ (bat = false ∧ void = false ∧ CALL = 2 ∧ bL = false ∧ bM = false) ∨ (bat = false ∧ void = false ∧ CALL = 2 ∧ bL = false ∧ bM = true ∧ HB 0 = false) ∨ (bat = false ∧ void = false ∧ CALL = 3) := by
        obtain ⟨F1, F2, F3, F4, F5⟩ := FIN.out
        rw [decide_eq_true hq, Bool.true_and] at F3 F4
        exact dec_fin F1 F2 F3 F4 F5 hBL.out hbM
      clear FIN hBL hbM
      have hH1 := Lib.hid (hhit.out 180 (by omega))
      have hH0 := Lib.hid (hhit.out 0 (by omega))
      clear hhit
      (have b0 := cell_heap (o := 0) gB rfl; have b1 := cell_heap (o := 1) gB rfl; have b2 := cell_heap (o := 2) gB rfl; have b3 := cell_heap (o := 3) gB rfl; have b4 := cell_heap (o := 4) gB rfl)
      (have s0 := cell_heap (o := 0) gT rfl; have s1 := cell_heap (o := 1) gT rfl; have s2 := cell_heap (o := 2) gT rfl; have s3 := cell_heap (o := 3) gT rfl; have s4 := cell_heap (o := 4) gT rfl; have s5 := cell_heap (o := 5) gT rfl; have s6 := cell_heap (o := 6) gT rfl; have s7 := cell_heap (o := 7) gT rfl; have s8 := cell_heap (o := 8) gT rfl; have s9 := cell_heap (o := 9) gT rfl; have s10 := cell_heap (o := 10) gT rfl; have s11 := cell_heap (o := 11) gT rfl)
      (have q0 := cell_heap (o := 0) gV rfl)
      rcases hfin with ⟨rfl, rfl⟩ | ⟨rfl, rfl, rfl⟩ | ⟨rfl, rfl, rfl, rfl, rfl, e⟩ | ⟨rfl, rfl, rfl, rfl⟩ | ⟨rfl, rfl, rfl, rfl, rfl⟩ | ⟨rfl, rfl, rfl, rfl, rfl, e⟩ | ⟨rfl, rfl, rfl⟩
      · go_wp2_with fail
        go_ret
        exact ⟨rfl, hK⟩
      · go_wp2_with fail
        go_ret
        exact ⟨rfl, hK⟩
      · rw [e] at hH1
        clear e
        go_wp2_with (go_at_call 27; refine (hH1.out _).mono ?_; rintro e w8 ⟨rfl, hb8⟩; replace hK := Below.next hK (Nat.le_refl _) hb8; clear hb8)
        go_ret
        exact ⟨rfl, hK⟩
      · go_wp2_with fail
        go_ret
        exact ⟨rfl, hK⟩
      · go_wp2_with fail
        go_ret
        exact ⟨rfl, hK⟩
      · rw [e] at hH0
        clear e
        go_wp2_with (go_at_call 27; refine (hH0.out _).mono ?_; rintro e w8 ⟨rfl, hb8⟩; replace hK := Below.next hK (Nat.le_refl _) hb8; clear hb8)
        go_ret
        exact ⟨rfl, hK⟩
      · go_wp2_with fail
        go_ret
        exact ⟨rfl, hK⟩
end Go.Proofs.Ytmdledlbkdcmnaa
