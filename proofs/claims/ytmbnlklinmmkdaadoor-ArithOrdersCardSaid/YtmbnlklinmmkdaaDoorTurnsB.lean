/- The walks of the two functions that turn. -/
import Derived.Test.YtmbnlklinmmkdaaDoorTurnsA
namespace Go.Proofs.YtmbnlklinmmkdaaDoor.Turns
open Go.RowKit Go.Proofs.YtmbnlklinmmkdaaDoorW.PrintWords Go.Proofs.YtmbnlklinmmkdaaDoorW.PrintLast Go.Proofs.YtmbnlklinmmkdaaDoorW.PrintMore Go.Proofs.YtmbnlklinmmkdaaDoor.Base Go.Proofs.YtmbnlklinmmkdaaDoor.MatA Go.Proofs.YtmbnlklinmmkdaaDoor.Sem Go.Proofs.YtmbnlklinmmkdaaDoor.Ref

theorem size_pos {w w' : World} (hz : 0 < w.heap.size) (hb : Below w.heap.size w w') : 0 < w'.heap.size := Nat.lt_of_lt_of_le hz hb.size
theorem Tab.below {w w' : World} (T : Tab w) (hb : Below w.heap.size w w') (hz : 0 < w.heap.size) : Tab w' := fun i hi => (hb.cell (p := ⟨0, i, none⟩) hz).trans (T i hi)

/-- The matrix that turns, or the error. -/
def rotM (a : Int) : R6 := if fitB a = true then ⟨S ((deg a + 90) % 360), S (deg a % 360), - S (deg a % 360), S ((deg a + 90) % 360), 0, 0, 0⟩ else zero6 11

set_option maxHeartbeats 1600000 in
set_option maxRecDepth 100000 in
theorem cRotate (a : Int) (w : World) (T : Tab w) (hz : 0 < w.heap.size) : Calls Tryd.prog 67 #[.int .i64 a] w fun e w' => e = .returned (r6V (rotM a)) ∧ Below w.heap.size w w' := by
  cases ha : fitB a
  · have E := Aside0.mk (show rotM a = zero6 11 by unfold rotM; rw [if_neg (by rw [ha]; decide)])
    go_enter Tryd.func67, Tryd.ntmps67
    go_wp2_with (go_at_call 62; ((with_reducible refine (cFits _ _).mono ?_); rintro e w' ⟨rfl, ⟨nd, rfl⟩⟩; rw [ha]))
    exact bodyPost_ret (out6 Tryd.results67 (v0 := 0) (v1 := 0) (v2 := 0) (v3 := 0) (v4 := 0) (v5 := 0) (e := 11) rfl rfl (Has.set (Has.set (Has.set (Has.set (Has.set (Has.set (Has.drewN (Has.new w (mC 0 0 0 0 0 0) 76 rfl) nd) 0 (.int .i64 0)) 1 (.int .i64 0)) 2 (.int .i64 0)) 3 (.int .i64 0)) 4 (.int .i64 0)) 5 (.int .i64 0))) rfl ⟨by rw [E.out]; rfl, by repeat (first | (with_reducible first | exact Below.refl _ _ | apply below_alloc | apply pw_below_drewN | apply below_drew1) | (with_reducible refine below_set ?_ (by omega)))⟩
  · have hb := fitB_true.1 ha
    have E := Aside0.mk (show rotM a = ⟨S ((deg a + 90) % 360), S (deg a % 360), - S (deg a % 360), S ((deg a + 90) % 360), 0, 0, 0⟩ by unfold rotM; rw [if_pos ha])
    go_enter Tryd.func67, Tryd.ntmps67
    go_upto_region 4 with (go_at_call 62; ((with_reducible refine (cFits _ _).mono ?_); rintro e w' ⟨rfl, ⟨nd, rfl⟩⟩; rw [ha]))
    unfold deg at E
    have hq : -32768 ≤ (a + 32768) / 65536 ∧ (a + 32768) / 65536 ≤ 32768 := by omega
    generalize (a + 32768) / 65536 = q at *
    obtain ⟨t, ht⟩ : ∃ t, q.tmod 360 = t := ⟨_, rfl⟩
    have htb : -360 < t ∧ t < 360 := by rw [← ht]; exact ⟨Int.lt_tmod_of_pos q (by decide), Int.tmod_lt_of_pos q (by decide)⟩
    have htq : (t + 360) % 360 = q % 360 := by
      by_cases h : 0 ≤ q
      · rw [← ht, tmod_small h]; omega
      · rw [← ht, tmod_neg (by omega)]; omega
    obtain ⟨p, hp⟩ : ∃ p, q % 360 = p := ⟨_, rfl⟩
    have hpb : 0 ≤ p ∧ p < 360 := by omega
    have hw1 : IntKind.i64.wrap t = t := IntWalk.i64_in _ (by omega)
    have hw2 : IntKind.i64.wrap (t + 360) = t + 360 := IntWalk.i64_in _ (by omega)
    have hw3 : (t + 360).tmod 360 = p := by rw [tmod_small (by omega), htq, hp]
    have hw4 : IntKind.i64.wrap p = p := IntWalk.i64_in _ (by omega)
    have hw5 : IntKind.i64.wrap (p + 90) = p + 90 := IntWalk.i64_in _ (by omega)
    have e1 : S ((p + 90) % 360) = S ((q + 90) % 360) := by congr 1; omega
    have e2 : S (p % 360) = S (q % 360) := by congr 1; omega
    have hr := S_range (q % 360)
    have hw6 : IntKind.i64.wrap (- S (q % 360)) = - S (q % 360) := IntWalk.i64_in _ (by omega)
    have T1 := Aside0.mk (T.below (pw_below_drewN (below_alloc (Below.refl w.heap.size w) (.cells (mC 0 0 0 0 0 0) 76)) nd) hz)
    have c0 := Has.drewN (Has.new w (mC 0 0 0 0 0 0) 76 rfl) nd
    clear T hp
    go_wp2_with (first | (go_at_call 81; ((with_reducible refine (cSine (p + 90) (by omega) _ T1.out).mono ?_); rintro e w' ⟨rfl, rfl⟩; rw [e1])) | (go_at_call 81; ((with_reducible refine (cSine p (by omega) _ T1.out).mono ?_); rintro e w' ⟨rfl, rfl⟩; rw [e2])))
    exact bodyPost_ret (out6 Tryd.results67 (v0 := (S ((q + 90) % 360))) (v1 := (S (q % 360))) (v2 := (- S (q % 360))) (v3 := (S ((q + 90) % 360))) (v4 := 0) (v5 := 0) (e := 0) rfl rfl (Has.set (Has.set (Has.set (Has.set (Has.set (Has.set (Has.drewN (Has.new w (mC 0 0 0 0 0 0) 76 rfl) nd) 0 (.int .i64 (S ((q + 90) % 360)))) 1 (.int .i64 (S (q % 360)))) 2 (.int .i64 (- S (q % 360)))) 3 (.int .i64 (S ((q + 90) % 360)))) 4 (.int .i64 0)) 5 (.int .i64 0))) rfl ⟨by rw [E.out], by repeat (first | (with_reducible first | exact Below.refl _ _ | apply below_alloc | apply pw_below_drewN | apply below_drew1) | (with_reducible refine below_set ?_ (by omega)))⟩
end Go.Proofs.YtmbnlklinmmkdaaDoor.Turns
