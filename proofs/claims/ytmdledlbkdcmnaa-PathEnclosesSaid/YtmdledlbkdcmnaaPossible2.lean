/-
  Contracts of Possible, ours and the reference's.
  Conditions: none.
-/
import Derived.Test.YtmdledlbkdcmnaaPossible
namespace Go.Proofs.Ytmdledlbkdcmnaa
open Go.RowKit
def posOk (l : List SN) : Bool := decide (behE l = 0) && posB l
def posV (l : List SN) : Value := .tuple #[.bool (posOk l), .int .i64 (behE l)]
theorem bnds_small (ax : Int) (l : List SN) : (bnds ax (bhdL l)).length ≤ 64 := by rw [bnds_len]; exact bhd_len l
theorem ret_p {a c : Bool} {b d : Int} (h1 : a = c) (h2 : b = d) : Ending.returned (.tuple #[.bool a, .int .i64 b]) = .returned (.tuple #[.bool c, .int .i64 d]) := by rw [h1, h2]
set_option maxRecDepth 100000 in
set_option maxHeartbeats 4000000 in
theorem possible_any (v : Value) (l : List SN) (w : World) (h : Seens w v l) : Calls Try.prog 20 #[v] w fun e w' => e = .returned (posV l) ∧ Below w.heap.size w w' := by
  have hbeh := Lib.hid (fun w' (h : Seens w' v l) => pbehind_any v l w' h)
  unfold posV posOk
  by_cases hb : behE l = 0
  · have hb0 : (0 : Int) = 0 := rfl
    have hok := Lib.hid (bhd_ok (l := l))
    have hl64 := bhd_len l
    have hB0 := Lib.hid (fun w' u (h : Seens w' u (bhdL l)) => bounds_any u (bhdL l) 0 w' h hok.out hl64 (by omega) (by omega))
    have hB1 := Lib.hid (fun w' u (h : Seens w' u (bhdL l)) => bounds_any u (bhdL l) 1 w' h hok.out hl64 (by omega) (by omega))
    have hB2 := Lib.hid (fun w' u (h : Seens w' u (bhdL l)) => bounds_any u (bhdL l) 2 w' h hok.out hl64 (by omega) (by omega))
    have hF0 := Lib.hid (fun w' u (h : Bnds w' u (bnds 0 (bhdL l))) => pfits_any u _ w' h (bnds_ok (ax := 0)) (bnds_small 0 l))
    have hF1 := Lib.hid (fun w' u (h : Bnds w' u (bnds 1 (bhdL l))) => pfits_any u _ w' h (bnds_ok (ax := 1)) (bnds_small 1 l))
    have hF2 := Lib.hid (fun w' u (h : Bnds w' u (bnds 2 (bhdL l))) => pfits_any u _ w' h (bnds_ok (ax := 2)) (bnds_small 2 l))
    have hbeh' := Lib.hid (fun w' (h : Seens w' v l) => by have := pbehind_any v l w' h; rwa [hb] at this)
    rw [hb]
    unfold posB
    clear hbeh hb hok
    generalize hX : bnds 0 (bhdL l) = X at *
    generalize hY : bnds 1 (bhdL l) = Y at *
    generalize hZ : bnds 2 (bhdL l) = Z at *
    generalize bhdL l = S at *
    clear hX hY hZ
    generalize fitsB X = fx at *
    generalize fitsB Y = fy at *
    generalize fitsB Z = fz at *
    cases fx <;> cases fy
    all_goals
      go_enter Try.func20, Try.ntmps20
      go_wp2_with (first
        | (go_at_call 55; refine (hbeh'.out _ (h.below (by repeat (first | with_reducible exact Below.refl _ _ | with_reducible assumption | with_reducible refine Below.drew ?_ | with_reducible refine Below.setCell ?_ (by first | omega | (simp; omega) | simp) _ | with_reducible refine Below.alloc ?_ (by first | omega | (simp; omega) | simp) _ | with_reducible refine Below.trans ?_ (Below.mono (by with_reducible assumption) (by first | omega | (simp; omega) | simp)))))).mono ?_; rintro e w1 ⟨⟨u, rfl, hu⟩, hb1⟩; have hK : Below w.heap.size w w1 := hb1; have hs := hu (by first | rfl | trivial); clear hu)
        | (go_at_call_of 57 (Value.int IntKind.i64 0); refine (hB0.out _ _ hs).mono ?_; rintro e w2 ⟨x, rfl, hx, hb2⟩; replace hK := Below.next hK (Nat.le_refl _) hb2; replace hs := hs.below hb2; clear hb2)
        | (go_at_call_of 57 (Value.int IntKind.i64 1); refine (hB1.out _ _ hs).mono ?_; rintro e w2 ⟨y, rfl, hy, hb2⟩; replace hK := Below.next hK (Nat.le_refl _) hb2; replace hs := hs.below hb2; clear hb2)
        | (go_at_call_of 57 (Value.int IntKind.i64 2); refine (hB2.out _ _ hs).mono ?_; rintro e w2 ⟨z, rfl, hz, hb2⟩; replace hK := Below.next hK (Nat.le_refl _) hb2; replace hs := hs.below hb2; clear hb2)
        | (go_at_call_of 56 (x); refine (hF0.out _ _ hx).mono ?_; rintro e w2 ⟨rfl, hb2⟩; replace hK := Below.next hK (Nat.le_refl _) hb2; replace hs := hs.below hb2; clear hb2)
        | (go_at_call_of 56 (y); refine (hF1.out _ _ hy).mono ?_; rintro e w2 ⟨rfl, hb2⟩; replace hK := Below.next hK (Nat.le_refl _) hb2; replace hs := hs.below hb2; clear hb2)
        | (go_at_call_of 56 (z); refine (hF2.out _ _ hz).mono ?_; rintro e w2 ⟨rfl, hb2⟩; replace hK := Below.next hK (Nat.le_refl _) hb2; replace hs := hs.below hb2; clear hb2))
      go_ret2
      exact ⟨ret_p (by simp) rfl, hK⟩
  · have hb' : (behE l != 0) = true := by simpa using hb
    have hd : decide (behE l = 0) = false := by simpa using hb
    rw [hd]
    clear hb hd
    generalize behE l = E at *
    go_enter Try.func20, Try.ntmps20
    go_wp2_with (go_at_call 55; refine (hbeh.out _ (h.below (by repeat (first | with_reducible exact Below.refl _ _ | with_reducible assumption | with_reducible refine Below.drew ?_ | with_reducible refine Below.setCell ?_ (by first | omega | (simp; omega) | simp) _ | with_reducible refine Below.alloc ?_ (by first | omega | (simp; omega) | simp) _ | with_reducible refine Below.trans ?_ (Below.mono (by with_reducible assumption) (by first | omega | (simp; omega) | simp)))))).mono ?_; rintro e w1 ⟨⟨u, rfl, hu⟩, hb1⟩; clear hu; have hK : Below w.heap.size w w1 := hb1)
    go_ret2
    exact ⟨ret_p (by simp) rfl, hK⟩
end Go.Proofs.Ytmdledlbkdcmnaa
