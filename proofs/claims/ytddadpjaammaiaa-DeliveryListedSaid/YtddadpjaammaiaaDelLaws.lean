/-
  The walks of the statements on legal deliveries, on ends, and on the lists.
  Conditions: none.
-/
import Derived.Test.YtddadpjaammaiaaAwake9
import Derived.Test.YtddadpjaammaiaaStillR
namespace Go.Proofs.Ytddadpjaammaiaa
open Go.RowKit
theorem deliveryLegal_walk (ty so ru sh bo : Int) (cr : Bool) (ho vi fi se : Int) (su : Bool) (sc : Int) (h2 : 0 ≤ so) (w : World) : Calls Try.prog 3 #[.agg #[.int .u8 ty, .int .u8 so, .int .i64 ru, .int .i64 sh, .int .i64 bo, .bool cr, .int .u8 ho, .int .i64 vi, .int .i64 fi, .int .i64 se, .bool su, .int .i64 sc]] w fun e w' => e = .returned (.bool true) ∧ Below w.heap.size w w' := by
  have hl := @Later.cell
  go_enter Try.func3, Try.ntmps3
  go_wp2_with fail
  refine region_later (by kernel_rfl) (by kernel_rfl) ?_; (repeat (go_big_quiet_step (first | (go_at_call 9; exact Calls.later (awake_any _)) | (go_at_call 10; exact Calls.later (legal_any _ _ _ _ _ _ _ _ _ _ _ _ _)) | (go_at_call 11; exact Calls.later (rlegal_any _ _ _ _ _ _ _ _ _ _ _ _ _ h2)) | (go_at_call 12; exact Calls.later_same (credited_any _ _)) | (go_at_call 13; exact Calls.later_same (rcredited_any _ _))))); refine wpQuiet_nil ?_; rintro _ ⟨x, rfl⟩; obtain ⟨w', hb⟩ := x; (try clear hc hf); (try clear hcM hfM); (try clear hcN hfN); (first | ((first | replace hB := Below.next hB (Nat.le_refl _) hb | replace hB := Below.next1 hB (Nat.le_refl _) hb | replace hB := Below.next2 hB (Nat.le_refl _) hb); (first | replace hM := Below.next hM (Nat.le_refl _) hb | replace hM := Below.next1 hM (Nat.le_refl _) hb | replace hM := Below.next2 hM (Nat.le_refl _) hb); (first | replace hN := Below.next hN (Nat.le_refl _) hb | replace hN := Below.next1 hN (Nat.le_refl _) hb | replace hN := Below.next2 hN (Nat.le_refl _) hb)) | ((first | replace hB := Below.next hB (Nat.le_refl _) hb | replace hB := Below.next1 hB (Nat.le_refl _) hb | replace hB := Below.next2 hB (Nat.le_refl _) hb); (first | replace hM := Below.next hM (Nat.le_refl _) hb | replace hM := Below.next1 hM (Nat.le_refl _) hb | replace hM := Below.next2 hM (Nat.le_refl _) hb); have hN := Below.mid hb) | ((first | replace hB := Below.next hB (Nat.le_refl _) hb | replace hB := Below.next1 hB (Nat.le_refl _) hb | replace hB := Below.next2 hB (Nat.le_refl _) hb); (first | replace hM := Below.next hM (Nat.le_refl _) hb | replace hM := Below.next1 hM (Nat.le_refl _) hb | replace hM := Below.next2 hM (Nat.le_refl _) hb)) | ((first | replace hB := Below.next hB (Nat.le_refl _) hb | replace hB := Below.next1 hB (Nat.le_refl _) hb | replace hB := Below.next2 hB (Nat.le_refl _) hb); have hM := Below.mid hb) | (first | replace hB := Below.next hB (Nat.le_refl _) hb | replace hB := Below.next1 hB (Nat.le_refl _) hb | replace hB := Below.next2 hB (Nat.le_refl _) hb) | have hB := hb); obtain ⟨hc, hf, hz⟩ := after hB; (try (have hq := after hM; obtain ⟨hcM, hfM, hzM⟩ := hq)); (try (have hq := after hN; obtain ⟨hcN, hfN, hzN⟩ := hq)); have hs := hb.size; (try simp at hz); (try simp at hs)
  go_wp2_with fail
  go_ret
  exact ⟨rfl, (by repeat (first | with_reducible exact Below.refl _ _ | with_reducible assumption | with_reducible refine Below.drew ?_ | with_reducible refine Below.setCell ?_ (by first | omega | (simp; omega) | simp) _ | with_reducible refine Below.alloc ?_ (by first | omega | (simp; omega) | simp) _ | with_reducible refine Below.trans ?_ (Below.mono (by with_reducible assumption) (by first | omega | (simp; omega) | simp))))⟩
/-- The slice v holds the deliveries L. -/
def Dels (w : World) (v : Value) (L : List PD) : Prop :=
  ∃ (pa : Option Addr) (g cap : Nat), v = .slice pa L.length cap ∧ (0 < L.length → pa = some ⟨g, 0, none⟩) ∧ ∀ i d, L[i]? = some d → ∀ j u, (cellsD d)[j]? = some u → w.cell? ⟨g, i * 12 + j, none⟩ = some u
theorem Dels.below {w w' : World} {v : Value} {L : List PD} (h : Dels w v L) (hb : Below w.heap.size w w') : Dels w' v L := by
  obtain ⟨pa, g, cap, rfl, h1, h2⟩ := h
  refine ⟨pa, g, cap, rfl, h1, fun i d hd j u hu => ?_⟩
  have c := h2 i d hd j u hu
  exact ((after hb).1 _ _ (by simp [c])).trans c
theorem dat {w w' : World} {L : List PD} {g : Nat} (h2 : ∀ i d, L[i]? = some d → ∀ j u, (cellsD d)[j]? = some u → w.cell? ⟨g, i * 12 + j, none⟩ = some u) (hb : Below w.heap.size w w') {i : Nat} {d : PD} (hd : L[i]? = some d) (j : Nat) {u : Value} (hu : (cellsD d)[j]? = some u) : w'.cell? ⟨g, i * 12 + j, none⟩ = some u := by
  have c := h2 i d hd j u hu
  exact ((after hb).1 _ _ (by simp [c])).trans c
theorem cellsD_at : ∀ (L : List PD) (i : Nat) (d : PD), L[i]? = some d → ∀ j u, (cellsD d)[j]? = some u → (L.flatMap cellsD)[i * 12 + j]? = some u
  | [], i, d, h => by simp at h
  | x :: L, 0, d, h => fun j u hu => by
    obtain rfl : x = d := by simpa using h
    have hj := (List.getElem?_eq_some_iff.1 hu).1
    rw [List.flatMap_cons, Nat.zero_mul, Nat.zero_add, List.getElem?_append_left hj]
    exact hu
  | x :: L, i + 1, d, h => fun j u hu => by
    have e := cellsD_at L i d (by simpa using h) j u hu
    have hx : (cellsD x).length = 12 := rfl
    rw [List.flatMap_cons, List.getElem?_append_right (by omega), hx]
    rw [show (i + 1) * 12 + j - 12 = i * 12 + j by omega]
    exact e
theorem Held.dels {w wr : World} {v : Value} {L : List PD} (h : Held w wr v L) : Dels wr v L := by
  rcases h.1.2 with ⟨rfl, h0⟩ | ⟨g, cap, cur, rfl, hg, hh, h1, h2, h3, h4⟩
  · refine ⟨none, 0, 0, by rw [h0], fun hp => by omega, fun i d hd => ?_⟩
    have := (List.getElem?_eq_some_iff.1 hd).1
    omega
  · refine ⟨_, g, cap, rfl, fun _ => rfl, fun i d hd j u hu => ?_⟩
    have hi := (List.getElem?_eq_some_iff.1 hd).1
    have hj : j < 12 := (List.getElem?_eq_some_iff.1 hu).1
    rw [World.ownsRow.cellAt h.1 (i * 12 + j) (by omega)]
    exact cellsD_at L i d hd j u hu
theorem all_dels (r : Int) (hr1 : -9223372036854775808 ≤ r) (hr2 : r ≤ 9223372036854775807) (w : World) : Calls Try.prog 14 #[.int .i64 r] w fun e w' => ∃ v, e = .returned v ∧ Dels w' v (allL (most r)) ∧ Below w.heap.size w w' :=
  (all_any r hr1 hr2 w).mono fun _ _ ⟨v, he, h⟩ => ⟨v, he, h.dels, h.2⟩
theorem rall_dels (r : Int) (hr1 : -9223372036854775808 ≤ r) (hr2 : r ≤ 9223372036854775807) (w : World) : Calls Try.prog 15 #[.int .i64 r] w fun e w' => ∃ v, e = .returned v ∧ Dels w' v (allL (most r)) ∧ Below w.heap.size w w' :=
  (rall_any r hr1 hr2 w).mono fun _ _ ⟨v, he, h⟩ => ⟨v, he, h.dels, h.2⟩
set_option maxRecDepth 100000 in
set_option maxHeartbeats 4000000 in
theorem deliveryAll_walk (r : Int) (hr1 : -9223372036854775808 ≤ r) (hr2 : r ≤ 9223372036854775807) (w : World) : Calls Try.prog 4 #[.int .i64 r] w fun e w' => e = .returned (.bool true) ∧ Below w.heap.size w w' := by
  go_enter Try.func4, Try.ntmps4
  have hlen : (allL (most r)).length ≤ 1000 := by have h1 := tyL_bd (most r) 3; have h2 := most_bd r; unfold allL; omega
  generalize hLL : allL (most r) = L at hlen
  go_wp2_with (first | (go_at_call 9; refine (awake_any _).mono ?_; rintro e w' ⟨rfl, hb⟩; (try clear hc hf); (try clear hcM hfM); (try clear hcN hfN); (first | ((first | replace hB := Below.next hB (Nat.le_refl _) hb | replace hB := Below.next1 hB (Nat.le_refl _) hb | replace hB := Below.next2 hB (Nat.le_refl _) hb); (first | replace hM := Below.next hM (Nat.le_refl _) hb | replace hM := Below.next1 hM (Nat.le_refl _) hb | replace hM := Below.next2 hM (Nat.le_refl _) hb); (first | replace hN := Below.next hN (Nat.le_refl _) hb | replace hN := Below.next1 hN (Nat.le_refl _) hb | replace hN := Below.next2 hN (Nat.le_refl _) hb)) | ((first | replace hB := Below.next hB (Nat.le_refl _) hb | replace hB := Below.next1 hB (Nat.le_refl _) hb | replace hB := Below.next2 hB (Nat.le_refl _) hb); (first | replace hM := Below.next hM (Nat.le_refl _) hb | replace hM := Below.next1 hM (Nat.le_refl _) hb | replace hM := Below.next2 hM (Nat.le_refl _) hb); have hN := Below.mid hb) | ((first | replace hB := Below.next hB (Nat.le_refl _) hb | replace hB := Below.next1 hB (Nat.le_refl _) hb | replace hB := Below.next2 hB (Nat.le_refl _) hb); (first | replace hM := Below.next hM (Nat.le_refl _) hb | replace hM := Below.next1 hM (Nat.le_refl _) hb | replace hM := Below.next2 hM (Nat.le_refl _) hb)) | ((first | replace hB := Below.next hB (Nat.le_refl _) hb | replace hB := Below.next1 hB (Nat.le_refl _) hb | replace hB := Below.next2 hB (Nat.le_refl _) hb); have hM := Below.mid hb) | (first | replace hB := Below.next hB (Nat.le_refl _) hb | replace hB := Below.next1 hB (Nat.le_refl _) hb | replace hB := Below.next2 hB (Nat.le_refl _) hb) | have hB := hb); obtain ⟨hc, hf, hz⟩ := after hB; (try (have hq := after hM; obtain ⟨hcM, hfM, hzM⟩ := hq)); (try (have hq := after hN; obtain ⟨hcN, hfN, hzN⟩ := hq)); have hs := hb.size; (try simp at hz); (try simp at hs)) | (go_at_call 14; refine (all_dels _ hr1 hr2 _).mono ?_; rintro e w1 ⟨va, rfl, ha, hb1⟩; rw [hLL] at ha) | (go_at_call 15; refine (rall_dels _ hr1 hr2 _).mono ?_; rintro e w2 ⟨vb, rfl, hbb, hb2⟩; rw [hLL] at hbb; replace ha := ha.below hb2; obtain ⟨pa, ga, ca, rfl, h1, h2⟩ := ha; obtain ⟨pb, gb, cb, rfl, h3, h4⟩ := hbb))
  have hs2 := hb2.size
  have hBB : Below w.heap.size w w2 := Below.next (Below.next hB (Nat.le_refl _) hb1) (Nat.le_refl _) hb2
  go_loopw [19] (fun x wr => ∃ i : Nat, i ≤ L.length ∧ x = .int .i64 i ∧ Below w2.heap.size w2 wr) (fun x _ => L.length - (intOf x).toNat)
  case atStart => exact ⟨0, by omega, rfl, (by repeat (first | with_reducible exact Below.refl _ _ | with_reducible assumption | with_reducible refine Below.drew ?_ | with_reducible refine Below.setCell ?_ (by first | omega | (simp; omega) | simp) _ | with_reducible refine Below.alloc ?_ (by first | omega | (simp; omega) | simp) _ | with_reducible refine Below.trans ?_ (Below.mono (by with_reducible assumption) (by first | omega | (simp; omega) | simp))))⟩
  case round =>
    obtain ⟨i, hi, rfl, hbr⟩ := hrel
    rcases Nat.lt_or_ge i L.length with hlt | hge
    · obtain rfl := h1 (by omega)
      obtain rfl := h3 (by omega)
      have hn : L.length - (i + 1) < L.length - i := by omega
      obtain ⟨d, hd⟩ : ∃ d, L[i]? = some d := ⟨_, List.getElem?_eq_getElem hlt⟩
      have x0 : wr.cell? ⟨ga, i * 12, none⟩ = some (.int .u8 d.1) := dat h2 hbr hd 0 rfl
      have x1 : wr.cell? ⟨ga, i * 12 + 1, none⟩ = some (.int .u8 d.2.1) := dat h2 hbr hd 1 rfl
      have x2 : wr.cell? ⟨ga, i * 12 + 2, none⟩ = some (.int .i64 d.2.2.1) := dat h2 hbr hd 2 rfl
      have x3 : wr.cell? ⟨ga, i * 12 + 3, none⟩ = some (.int .i64 0) := dat h2 hbr hd 3 rfl
      have x4 : wr.cell? ⟨ga, i * 12 + 4, none⟩ = some (.int .i64 d.2.2.2) := dat h2 hbr hd 4 rfl
      have x5 : wr.cell? ⟨ga, i * 12 + 5, none⟩ = some (.bool false) := dat h2 hbr hd 5 rfl
      have x6 : wr.cell? ⟨ga, i * 12 + 6, none⟩ = some (.int .u8 0) := dat h2 hbr hd 6 rfl
      have x7 : wr.cell? ⟨ga, i * 12 + 7, none⟩ = some (.int .i64 0) := dat h2 hbr hd 7 rfl
      have x8 : wr.cell? ⟨ga, i * 12 + 8, none⟩ = some (.int .i64 0) := dat h2 hbr hd 8 rfl
      have x9 : wr.cell? ⟨ga, i * 12 + 9, none⟩ = some (.int .i64 0) := dat h2 hbr hd 9 rfl
      have x10 : wr.cell? ⟨ga, i * 12 + 10, none⟩ = some (.bool false) := dat h2 hbr hd 10 rfl
      have x11 : wr.cell? ⟨ga, i * 12 + 11, none⟩ = some (.int .i64 0) := dat h2 hbr hd 11 rfl
      have y0 : wr.cell? ⟨gb, i * 12, none⟩ = some (.int .u8 d.1) := dat h4 hbr hd 0 rfl
      have y1 : wr.cell? ⟨gb, i * 12 + 1, none⟩ = some (.int .u8 d.2.1) := dat h4 hbr hd 1 rfl
      have y2 : wr.cell? ⟨gb, i * 12 + 2, none⟩ = some (.int .i64 d.2.2.1) := dat h4 hbr hd 2 rfl
      have y3 : wr.cell? ⟨gb, i * 12 + 3, none⟩ = some (.int .i64 0) := dat h4 hbr hd 3 rfl
      have y4 : wr.cell? ⟨gb, i * 12 + 4, none⟩ = some (.int .i64 d.2.2.2) := dat h4 hbr hd 4 rfl
      have y5 : wr.cell? ⟨gb, i * 12 + 5, none⟩ = some (.bool false) := dat h4 hbr hd 5 rfl
      have y6 : wr.cell? ⟨gb, i * 12 + 6, none⟩ = some (.int .u8 0) := dat h4 hbr hd 6 rfl
      have y7 : wr.cell? ⟨gb, i * 12 + 7, none⟩ = some (.int .i64 0) := dat h4 hbr hd 7 rfl
      have y8 : wr.cell? ⟨gb, i * 12 + 8, none⟩ = some (.int .i64 0) := dat h4 hbr hd 8 rfl
      have y9 : wr.cell? ⟨gb, i * 12 + 9, none⟩ = some (.int .i64 0) := dat h4 hbr hd 9 rfl
      have y10 : wr.cell? ⟨gb, i * 12 + 10, none⟩ = some (.bool false) := dat h4 hbr hd 10 rfl
      have y11 : wr.cell? ⟨gb, i * 12 + 11, none⟩ = some (.int .i64 0) := dat h4 hbr hd 11 rfl
      clear hd h2 h4
      go_wp2_with fail
      have i0 : (0 : Int) ≤ (i : Int) := by omega
      have i1 : (i : Int) < (L.length : Int) := by omega
      refine region_still (by kernel_rfl) (by kernel_rfl) ?_; intro W' hW hC; have z0 := (hC ⟨ga, i * 12, none⟩).trans (x0); have z1 := (hC ⟨ga, i * 12 + 1, none⟩).trans (x1); have z2 := (hC ⟨ga, i * 12 + 2, none⟩).trans (x2); have z3 := (hC ⟨ga, i * 12 + 3, none⟩).trans (x3); have z4 := (hC ⟨ga, i * 12 + 4, none⟩).trans (x4); have z5 := (hC ⟨ga, i * 12 + 5, none⟩).trans (x5); have z6 := (hC ⟨ga, i * 12 + 6, none⟩).trans (x6); have z7 := (hC ⟨ga, i * 12 + 7, none⟩).trans (x7); have z8 := (hC ⟨ga, i * 12 + 8, none⟩).trans (x8); have z9 := (hC ⟨ga, i * 12 + 9, none⟩).trans (x9); have z10 := (hC ⟨ga, i * 12 + 10, none⟩).trans (x10); have z11 := (hC ⟨ga, i * 12 + 11, none⟩).trans (x11); have z12 := (hC ⟨gb, i * 12, none⟩).trans (y0); have z13 := (hC ⟨gb, i * 12 + 1, none⟩).trans (y1); have z14 := (hC ⟨gb, i * 12 + 2, none⟩).trans (y2); have z15 := (hC ⟨gb, i * 12 + 3, none⟩).trans (y3); have z16 := (hC ⟨gb, i * 12 + 4, none⟩).trans (y4); have z17 := (hC ⟨gb, i * 12 + 5, none⟩).trans (y5); have z18 := (hC ⟨gb, i * 12 + 6, none⟩).trans (y6); have z19 := (hC ⟨gb, i * 12 + 7, none⟩).trans (y7); have z20 := (hC ⟨gb, i * 12 + 8, none⟩).trans (y8); have z21 := (hC ⟨gb, i * 12 + 9, none⟩).trans (y9); have z22 := (hC ⟨gb, i * 12 + 10, none⟩).trans (y10); have z23 := (hC ⟨gb, i * 12 + 11, none⟩).trans (y11); replace hW := Lib.hid hW; clear hC; (repeat still_step); refine wpStill_nil ?_; obtain rfl := hW.out; clear hW
      go_wp2_with fail
      exact ⟨⟨i + 1, hlt, by simp, hbr.drew⟩, by simpa [intOf] using hn⟩
    · go_wp2_with fail
      go_ret
      exact ⟨rfl, Below.next hBB (Nat.le_refl _) hbr⟩
end Go.Proofs.Ytddadpjaammaiaa
