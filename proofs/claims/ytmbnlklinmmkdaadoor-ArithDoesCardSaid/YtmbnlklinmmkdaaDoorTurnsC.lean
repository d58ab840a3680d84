import Derived.Test.YtmbnlklinmmkdaaDoorAMat
import Derived.Test.YtmbnlklinmmkdaaDoorTurnsSem
namespace Go.Proofs.YtmbnlklinmmkdaaDoor.Turns
open Go.RowKit Go.Proofs.YtmbnlklinmmkdaaDoorW.PrintWords Go.Proofs.YtmbnlklinmmkdaaDoorW.PrintLast Go.Proofs.YtmbnlklinmmkdaaDoorW.PrintMore Go.Proofs.YtmbnlklinmmkdaaDoor.Base Go.Proofs.YtmbnlklinmmkdaaDoor.MatA Go.Proofs.YtmbnlklinmmkdaaDoor.Sem Go.Proofs.YtmbnlklinmmkdaaDoor.Ref
def Tab (w : World) : Prop := ∀ i : Nat, i < 91 → w.cell? ⟨0, i, none⟩ = some (.int .i64 (sv i))
set_option maxHeartbeats 800000 in
set_option maxRecDepth 100000 in
theorem cSine1 (d : Int) (n : Nat) (ht : d.tmod 360 = (n : Int)) (hn : n ≤ 180) (w : World) (T : Tab w) : Calls Tryd.prog 81 #[.int .i64 d] w fun e w' => e = .returned (.int .i64 (s1 (n : Int))) ∧ w' = w := by
  have hw : IntKind.i64.wrap (n : Int) = (n : Int) := IntWalk.i64_in _ (by omega)
  have e1 : decide ((n : Int) > 180) = false := decide_eq_false (by omega)
  by_cases h : 90 < n
  · have e2 : decide ((n : Int) > 90) = true := decide_eq_true (by omega)
    obtain ⟨m, hm⟩ : ∃ m : Nat, m + n = 180 := ⟨180 - n, by omega⟩
    have hs : (180 - (n : Int)) = (m : Int) := by omega
    have hw2 : IntKind.i64.wrap (180 - (n : Int)) = (m : Int) := by rw [hs]; exact IntWalk.i64_in _ (by omega)
    have hc := T m (by omega)
    have hb : m < 91 := by omega
    have e : s1 (n : Int) = sv m := by unfold s1; rw [if_pos (by omega)]; congr 1; omega
    rw [e]
    clear T e hs hm
    go_enter Tryd.func81, Tryd.ntmps81
    go_wp2
    go_ret
    exact ⟨rfl, rfl⟩
  · have e2 : decide ((n : Int) > 90) = false := decide_eq_false (by omega)
    have hc := T n (by omega)
    have hb : n < 91 := by omega
    have e : s1 (n : Int) = sv n := by unfold s1; rw [if_neg (by omega)]; rfl
    rw [e]
    clear T e
    go_enter Tryd.func81, Tryd.ntmps81
    go_wp2
    go_ret
    exact ⟨rfl, rfl⟩
set_option maxHeartbeats 800000 in
set_option maxRecDepth 100000 in
theorem cSine (d : Int) (h0 : 0 ≤ d) (w : World) (T : Tab w) : Calls Tryd.prog 81 #[.int .i64 d] w fun e w' => e = .returned (.int .i64 (S (d % 360))) ∧ w' = w := by
  obtain ⟨n, hn⟩ : ∃ n : Nat, d % 360 = (n : Int) := ⟨(d % 360).toNat, by omega⟩
  have hl : n < 360 := by omega
  have ht : d.tmod 360 = (n : Int) := by rw [tmod_small h0]; exact hn
  rw [hn]
  by_cases h : n ≤ 180
  · have e : S (n : Int) = s1 (n : Int) := by unfold S; rw [if_neg (by omega)]
    rw [e]
    exact cSine1 d n ht h w T
  · obtain ⟨m, hm⟩ : ∃ m : Nat, m + 180 = n := ⟨n - 180, by omega⟩
    have e : S (n : Int) = - s1 (m : Int) := by unfold S; rw [if_pos (by omega)]; congr 2; omega
    rw [e]
    have hw : IntKind.i64.wrap (n : Int) = (n : Int) := IntWalk.i64_in _ (by omega)
    have e1 : decide ((n : Int) > 180) = true := decide_eq_true (by omega)
    have hs : ((n : Int) - 180) = (m : Int) := by omega
    have hw2 : IntKind.i64.wrap ((n : Int) - 180) = (m : Int) := by rw [hs]; exact IntWalk.i64_in _ (by omega)
    have hr := s1_range (m : Int)
    have hw3 : IntKind.i64.wrap (- s1 (m : Int)) = - s1 (m : Int) := IntWalk.i64_in _ (by omega)
    have hm2 : (m : Int).tmod 360 = (m : Int) := by rw [tmod_small (by omega)]; omega
    have HT := Aside0.mk T
    have hm3 : m ≤ 180 := by omega
    clear T e hs hm h hl hr h0 hn
    go_enter Tryd.func81, Tryd.ntmps81
    go_wp2_with (go_at_call 81; ((with_reducible refine (cSine1 _ m hm2 hm3 _ HT.out).mono ?_); rintro e w' ⟨rfl, rfl⟩))
    go_ret
    exact ⟨rfl, rfl⟩
end Go.Proofs.YtmbnlklinmmkdaaDoor.Turns

namespace Go.Proofs.YtmbnlklinmmkdaaDoor.Turns
open Go.RowKit Go.Proofs.YtmbnlklinmmkdaaDoorW.PrintWords Go.Proofs.YtmbnlklinmmkdaaDoorW.PrintLast Go.Proofs.YtmbnlklinmmkdaaDoorW.PrintMore Go.Proofs.YtmbnlklinmmkdaaDoor.Base Go.Proofs.YtmbnlklinmmkdaaDoor.MatA Go.Proofs.YtmbnlklinmmkdaaDoor.Sem Go.Proofs.YtmbnlklinmmkdaaDoor.Ref
theorem size_pos {w w' : World} (hz : 0 < w.heap.size) (hb : Below w.heap.size w w') : 0 < w'.heap.size := Nat.lt_of_lt_of_le hz hb.size
theorem Tab.below {w w' : World} (T : Tab w) (hb : Below w.heap.size w w') (hz : 0 < w.heap.size) : Tab w' := fun i hi => (hb.cell (p := ⟨0, i, none⟩) hz).trans (T i hi)
def rotM (a : Int) : R6 := if fitB a = true then ⟨S ((deg a + 90) % 360), S (deg a % 360), - S (deg a % 360), S ((deg a + 90) % 360), 0, 0, 0⟩ else zero6 11
set_option maxHeartbeats 1600000 in
set_option maxRecDepth 100000 in
theorem cRotate (a : Int) (w : World) (T : Tab w) (hz : 0 < w.heap.size) : Calls Tryd.prog 67 #[.int .i64 a] w fun e w' => e = .returned (r6V (rotM a)) ∧ Below w.heap.size w w' := by
  cases ha : fitB a
  · have E := Aside0.mk (show rotM a = zero6 11 by unfold rotM; rw [if_neg (by rw [ha]; decide)])
    go_enter Tryd.func67, Tryd.ntmps67
    go_wp2_with (go_at_call 62; ((with_reducible refine (cFits _ _).mono ?_); rintro e w' ⟨rfl, ⟨nd, rfl⟩⟩; rw [ha]))
    exact bodyPost_ret (out6 Tryd.results67 (v0 := 0) (v1 := 0) (v2 := 0) (v3 := 0) (v4 := 0) (v5 := 0) (e := 11) rfl rfl (Has.set (Has.set (Has.set (Has.set (Has.set (Has.set (Has.drewN (Has.new w (mC 0 0 0 0 0 0) 76 rfl) nd) 0 (.int .i64 0)) 1 (.int .i64 0)) 2 (.int .i64 0)) 3 (.int .i64 0)) 4 (.int .i64 0)) 5 (.int .i64 0))) rfl ⟨by rw [E.out]; rfl, by repeat (first | (with_reducible first | exact Below.refl _ _ | apply below_alloc | apply pw_below_drewN | apply below_drew1) | (with_reducible refine below_set ?_ (by omega)))⟩
  · have hb := fitB_true.1 ha
    have E := Aside0.mk (show rotM a = ⟨S ((deg a + 90) % 360), S (deg a % 360), - S (deg a % 360), S ((deg a + 90) % 360), 0, 0, 0⟩ by unfold rotM; rw [if_pos ha])
    go_enter Tryd.func67, Tryd.ntmps67
    go_upto_region 4 with (go_at_call 62; ((with_reducible refine (cFits _ _).mono ?_); rintro e w' ⟨rfl, ⟨nd, rfl⟩⟩; rw [ha]))
    unfold deg at E
    have hq : -32768 ≤ (a + 32768) / 65536 ∧ (a + 32768) / 65536 ≤ 32768 := by omega
    generalize (a + 32768) / 65536 = q at *
    obtain ⟨t, ht⟩ : ∃ t, q.tmod 360 = t := ⟨_, rfl⟩
    have htb : -360 < t ∧ t < 360 := by rw [← ht]; exact ⟨Int.lt_tmod_of_pos q (by decide), Int.tmod_lt_of_pos q (by decide)⟩
    have htq : (t + 360) % 360 = q % 360 := by
      by_cases h : 0 ≤ q
      · rw [← ht, tmod_small h]; omega
      · rw [← ht, tmod_neg (by omega)]; omega
    obtain ⟨p, hp⟩ : ∃ p, q % 360 = p := ⟨_, rfl⟩
    have hpb : 0 ≤ p ∧ p < 360 := by omega
    have hw1 : IntKind.i64.wrap t = t := IntWalk.i64_in _ (by omega)
    have hw2 : IntKind.i64.wrap (t + 360) = t + 360 := IntWalk.i64_in _ (by omega)
    have hw3 : (t + 360).tmod 360 = p := by rw [tmod_small (by omega), htq, hp]
    have hw4 : IntKind.i64.wrap p = p := IntWalk.i64_in _ (by omega)
    have hw5 : IntKind.i64.wrap (p + 90) = p + 90 := IntWalk.i64_in _ (by omega)
    have e1 : S ((p + 90) % 360) = S ((q + 90) % 360) := by congr 1; omega
    have e2 : S (p % 360) = S (q % 360) := by congr 1; omega
    have hr := S_range (q % 360)
    have hw6 : IntKind.i64.wrap (- S (q % 360)) = - S (q % 360) := IntWalk.i64_in _ (by omega)
    have T1 := Aside0.mk (T.below (pw_below_drewN (below_alloc (Below.refl w.heap.size w) (.cells (mC 0 0 0 0 0 0) 76)) nd) hz)
    have c0 := Has.drewN (Has.new w (mC 0 0 0 0 0 0) 76 rfl) nd
    clear T hp
    go_wp2_with (first | (go_at_call 81; ((with_reducible refine (cSine (p + 90) (by omega) _ T1.out).mono ?_); rintro e w' ⟨rfl, rfl⟩; rw [e1])) | (go_at_call 81; ((with_reducible refine (cSine p (by omega) _ T1.out).mono ?_); rintro e w' ⟨rfl, rfl⟩; rw [e2])))
    exact bodyPost_ret (out6 Tryd.results67 (v0 := (S ((q + 90) % 360))) (v1 := (S (q % 360))) (v2 := (- S (q % 360))) (v3 := (S ((q + 90) % 360))) (v4 := 0) (v5 := 0) (e := 0) rfl rfl (Has.set (Has.set (Has.set (Has.set (Has.set (Has.set (Has.drewN (Has.new w (mC 0 0 0 0 0 0) 76 rfl) nd) 0 (.int .i64 (S ((q + 90) % 360)))) 1 (.int .i64 (S (q % 360)))) 2 (.int .i64 (- S (q % 360)))) 3 (.int .i64 (S ((q + 90) % 360)))) 4 (.int .i64 0)) 5 (.int .i64 0))) rfl ⟨by rw [E.out], by repeat (first | (with_reducible first | exact Below.refl _ _ | apply below_alloc | apply pw_below_drewN | apply below_drew1) | (with_reducible refine below_set ?_ (by omega)))⟩
end Go.Proofs.YtmbnlklinmmkdaaDoor.Turns

namespace Go.Proofs.YtmbnlklinmmkdaaDoor.Turns
open Go.RowKit Go.Proofs.YtmbnlklinmmkdaaDoorW.PrintWords Go.Proofs.YtmbnlklinmmkdaaDoorW.PrintLast Go.Proofs.YtmbnlklinmmkdaaDoorW.PrintMore Go.Proofs.YtmbnlklinmmkdaaDoor.Base Go.Proofs.YtmbnlklinmmkdaaDoor.MatA Go.Proofs.YtmbnlklinmmkdaaDoor.Sem Go.Proofs.YtmbnlklinmmkdaaDoor.Ref
set_option maxHeartbeats 800000 in
set_option maxRecDepth 100000 in
theorem rRotate (a : Int) (w : World) : Calls Tryd.prog 52 #[.int .i64 a] w fun e w' => e = .returned (r6V (rotM a)) ∧ Below w.heap.size w w' := by
  have H0 := Has.new w (mC 0 0 0 0 0 0) 76 rfl
  cases ha : fitB a
  · have E := Aside0.mk (show rotM a = zero6 11 by unfold rotM; rw [if_neg (by rw [ha]; decide)])
    go_enter Tryd.func52, Tryd.ntmps52
    go_wp2_with (go_at_call 37; ((with_reducible refine (rFits _ _).mono ?_); rintro e w' ⟨rfl, ⟨nd, rfl⟩⟩; rw [ha]))
    exact bodyPost_ret (out6 Tryd.results52 (v0 := 0) (v1 := 0) (v2 := 0) (v3 := 0) (v4 := 0) (v5 := 0) (e := 11) rfl rfl (Has.set (Has.set (Has.set (Has.set (Has.set (Has.set (Has.drewN H0 _) 0 (.int .i64 0)) 1 (.int .i64 0)) 2 (.int .i64 0)) 3 (.int .i64 0)) 4 (.int .i64 0)) 5 (.int .i64 0))) rfl ⟨by rw [E.out]; rfl, by repeat (first | (with_reducible first | exact Below.refl _ _ | apply below_alloc | apply pw_below_drewN | apply below_drew1) | (with_reducible refine below_set ?_ (by omega)))⟩
  · have hb := fitB_true.1 ha
    have E := Aside0.mk (show rotM a = ⟨S ((deg a + 90) % 360), S (deg a % 360), - S (deg a % 360), S ((deg a + 90) % 360), 0, 0, 0⟩ by unfold rotM; rw [if_pos ha])
    obtain ⟨q, hq⟩ : ∃ q, deg a = q := ⟨_, rfl⟩
    rw [hq] at E
    unfold deg at hq
    obtain ⟨b, hbb⟩ : ∃ b, a / 65536 * 65536 = b := ⟨_, rfl⟩
    have HBB := Aside0.mk hbb
    have hw1 : IntKind.i64.wrap (a - b) = a - b := IntWalk.i64_in _ (by omega)
    have hw2 : IntKind.i64.wrap (b + 65536) = b + 65536 := IntWalk.i64_in _ (by omega)
    have hw5 : IntKind.i64.wrap (q + 90) = q + 90 := IntWalk.i64_in _ (by omega)
    have hw4 : IntKind.i64.wrap q = q := IntWalk.i64_in _ (by omega)
    have hr := S_range (q % 360)
    have hw6 : IntKind.i64.wrap (- S (q % 360)) = - S (q % 360) := IntWalk.i64_in _ (by omega)
    have hlo : -4000000000 ≤ a := by omega
    have hhi : a ≤ 4000000000 := by omega
    by_cases hc : a - b ≥ 32768
    · have e1 : decide (a - b ≥ 32768) = true := decide_eq_true hc
      have hd : (b + 65536).tdiv 65536 = q := by
        rw [show b + 65536 = q * 65536 by omega]; exact Int.mul_tdiv_cancel q (by decide)
      clear hq hbb hc
      go_enter Tryd.func52, Tryd.ntmps52
      go_wp2_with (first | (go_at_call 37; ((with_reducible refine (rFits _ _).mono ?_); rintro e w' ⟨rfl, ⟨nd, rfl⟩⟩; rw [ha])) | (go_at_call 76; ((with_reducible refine (rBelow hlo hhi _).mono ?_); rintro e w' ⟨rfl, ⟨nb, rfl⟩⟩; rw [HBB.out])) | (go_at_call 77; ((with_reducible refine (rSine _ _).mono ?_); rintro e w' ⟨rfl, ⟨n1, rfl⟩⟩)))
      exact bodyPost_ret (out6 Tryd.results52 (v0 := (S ((q + 90) % 360))) (v1 := (S (q % 360))) (v2 := (- S (q % 360))) (v3 := (S ((q + 90) % 360))) (v4 := 0) (v5 := 0) (e := 0) rfl rfl (Has.set (Has.set (Has.set (Has.set (Has.set (Has.set (Has.drewN H0 _) 0 (.int .i64 (S ((q + 90) % 360)))) 1 (.int .i64 (S (q % 360)))) 2 (.int .i64 (- S (q % 360)))) 3 (.int .i64 (S ((q + 90) % 360)))) 4 (.int .i64 0)) 5 (.int .i64 0))) rfl ⟨by rw [E.out], by repeat (first | (with_reducible first | exact Below.refl _ _ | apply below_alloc | apply pw_below_drewN | apply below_drew1) | (with_reducible refine below_set ?_ (by omega)))⟩
    · have e1 : decide (a - b ≥ 32768) = false := decide_eq_false hc
      have hd : b.tdiv 65536 = q := by
        rw [show b = q * 65536 by omega]; exact Int.mul_tdiv_cancel q (by decide)
      clear hq hbb hc
      go_enter Tryd.func52, Tryd.ntmps52
      go_wp2_with (first | (go_at_call 37; ((with_reducible refine (rFits _ _).mono ?_); rintro e w' ⟨rfl, ⟨nd, rfl⟩⟩; rw [ha])) | (go_at_call 76; ((with_reducible refine (rBelow hlo hhi _).mono ?_); rintro e w' ⟨rfl, ⟨nb, rfl⟩⟩; rw [HBB.out])) | (go_at_call 77; ((with_reducible refine (rSine _ _).mono ?_); rintro e w' ⟨rfl, ⟨n1, rfl⟩⟩)))
      exact bodyPost_ret (out6 Tryd.results52 (v0 := (S ((q + 90) % 360))) (v1 := (S (q % 360))) (v2 := (- S (q % 360))) (v3 := (S ((q + 90) % 360))) (v4 := 0) (v5 := 0) (e := 0) rfl rfl (Has.set (Has.set (Has.set (Has.set (Has.set (Has.set (Has.drewN H0 _) 0 (.int .i64 (S ((q + 90) % 360)))) 1 (.int .i64 (S (q % 360)))) 2 (.int .i64 (- S (q % 360)))) 3 (.int .i64 (S ((q + 90) % 360)))) 4 (.int .i64 0)) 5 (.int .i64 0))) rfl ⟨by rw [E.out], by repeat (first | (with_reducible first | exact Below.refl _ _ | apply below_alloc | apply pw_below_drewN | apply below_drew1) | (with_reducible refine below_set ?_ (by omega)))⟩
end Go.Proofs.YtmbnlklinmmkdaaDoor.Turns
