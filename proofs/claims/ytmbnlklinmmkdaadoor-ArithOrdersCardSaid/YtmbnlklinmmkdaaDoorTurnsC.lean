/- The walk of the document's function that turns. -/
import Derived.Test.YtmbnlklinmmkdaaDoorTurnsB
namespace Go.Proofs.YtmbnlklinmmkdaaDoor.Turns
open Go.RowKit Go.Proofs.YtmbnlklinmmkdaaDoorW.PrintWords Go.Proofs.YtmbnlklinmmkdaaDoorW.PrintLast Go.Proofs.YtmbnlklinmmkdaaDoorW.PrintMore Go.Proofs.YtmbnlklinmmkdaaDoor.Base Go.Proofs.YtmbnlklinmmkdaaDoor.MatA Go.Proofs.YtmbnlklinmmkdaaDoor.Sem Go.Proofs.YtmbnlklinmmkdaaDoor.Ref

set_option maxHeartbeats 800000 in
set_option maxRecDepth 100000 in
theorem rRotate (a : Int) (w : World) : Calls Tryd.prog 52 #[.int .i64 a] w fun e w' => e = .returned (r6V (rotM a)) ∧ Below w.heap.size w w' := by
  have H0 := Has.new w (mC 0 0 0 0 0 0) 76 rfl
  cases ha : fitB a
  · have E := Aside0.mk (show rotM a = zero6 11 by unfold rotM; rw [if_neg (by rw [ha]; decide)])
    go_enter Tryd.func52, Tryd.ntmps52
    go_wp2_with (go_at_call 37; ((with_reducible refine (rFits _ _).mono ?_); rintro e w' ⟨rfl, ⟨nd, rfl⟩⟩; rw [ha]))
    exact bodyPost_ret (out6 Tryd.results52 (v0 := 0) (v1 := 0) (v2 := 0) (v3 := 0) (v4 := 0) (v5 := 0) (e := 11) rfl rfl (Has.set (Has.set (Has.set (Has.set (Has.set (Has.set (Has.drewN H0 _) 0 (.int .i64 0)) 1 (.int .i64 0)) 2 (.int .i64 0)) 3 (.int .i64 0)) 4 (.int .i64 0)) 5 (.int .i64 0))) rfl ⟨by rw [E.out]; rfl, by repeat (first | (with_reducible first | exact Below.refl _ _ | apply below_alloc | apply pw_below_drewN | apply below_drew1) | (with_reducible refine below_set ?_ (by omega)))⟩
  · have hb := fitB_true.1 ha
    have E := Aside0.mk (show rotM a = ⟨S ((deg a + 90) % 360), S (deg a % 360), - S (deg a % 360), S ((deg a + 90) % 360), 0, 0, 0⟩ by unfold rotM; rw [if_pos ha])
    obtain ⟨q, hq⟩ : ∃ q, deg a = q := ⟨_, rfl⟩
    rw [hq] at E
    unfold deg at hq
    obtain ⟨b, hbb⟩ : ∃ b, a / 65536 * 65536 = b := ⟨_, rfl⟩
    have HBB := Aside0.mk hbb
    have hw1 : IntKind.i64.wrap (a - b) = a - b := IntWalk.i64_in _ (by omega)
    have hw2 : IntKind.i64.wrap (b + 65536) = b + 65536 := IntWalk.i64_in _ (by omega)
    have hw5 : IntKind.i64.wrap (q + 90) = q + 90 := IntWalk.i64_in _ (by omega)
    have hw4 : IntKind.i64.wrap q = q := IntWalk.i64_in _ (by omega)
    have hr := S_range (q % 360)
    have hw6 : IntKind.i64.wrap (- S (q % 360)) = - S (q % 360) := IntWalk.i64_in _ (by omega)
    have hlo : -4000000000 ≤ a := by omega
    have hhi : a ≤ 4000000000 := by omega
    by_cases hc : a - b ≥ 32768
    · have e1 : decide (a - b ≥ 32768) = true := decide_eq_true hc
      have hd : (b + 65536).tdiv 65536 = q := by
        rw [show b + 65536 = q * 65536 by omega]; exact Int.mul_tdiv_cancel q (by decide)
      clear hq hbb hc
      go_enter Tryd.func52, Tryd.ntmps52
      go_wp2_with (first | (go_at_call 37; ((with_reducible refine (rFits _ _).mono ?_); rintro e w' ⟨rfl, ⟨nd, rfl⟩⟩; rw [ha])) | (go_at_call 76; ((with_reducible refine (rBelow hlo hhi _).mono ?_); rintro e w' ⟨rfl, ⟨nb, rfl⟩⟩; rw [HBB.out])) | (go_at_call 77; ((with_reducible refine (rSine _ _).mono ?_); rintro e w' ⟨rfl, ⟨n1, rfl⟩⟩)))
      exact bodyPost_ret (out6 Tryd.results52 (v0 := (S ((q + 90) % 360))) (v1 := (S (q % 360))) (v2 := (- S (q % 360))) (v3 := (S ((q + 90) % 360))) (v4 := 0) (v5 := 0) (e := 0) rfl rfl (Has.set (Has.set (Has.set (Has.set (Has.set (Has.set (Has.drewN H0 _) 0 (.int .i64 (S ((q + 90) % 360)))) 1 (.int .i64 (S (q % 360)))) 2 (.int .i64 (- S (q % 360)))) 3 (.int .i64 (S ((q + 90) % 360)))) 4 (.int .i64 0)) 5 (.int .i64 0))) rfl ⟨by rw [E.out], by repeat (first | (with_reducible first | exact Below.refl _ _ | apply below_alloc | apply pw_below_drewN | apply below_drew1) | (with_reducible refine below_set ?_ (by omega)))⟩
    · have e1 : decide (a - b ≥ 32768) = false := decide_eq_false hc
      have hd : b.tdiv 65536 = q := by
        rw [show b = q * 65536 by omega]; exact Int.mul_tdiv_cancel q (by decide)
      clear hq hbb hc
      go_enter Tryd.func52, Tryd.ntmps52
      go_wp2_with (first | (go_at_call 37; ((with_reducible refine (rFits _ _).mono ?_); rintro e w' ⟨rfl, ⟨nd, rfl⟩⟩; rw [ha])) | (go_at_call 76; ((with_reducible refine (rBelow hlo hhi _).mono ?_); rintro e w' ⟨rfl, ⟨nb, rfl⟩⟩; rw [HBB.out])) | (go_at_call 77; ((with_reducible refine (rSine _ _).mono ?_); rintro e w' ⟨rfl, ⟨n1, rfl⟩⟩)))
      exact bodyPost_ret (out6 Tryd.results52 (v0 := (S ((q + 90) % 360))) (v1 := (S (q % 360))) (v2 := (- S (q % 360))) (v3 := (S ((q + 90) % 360))) (v4 := 0) (v5 := 0) (e := 0) rfl rfl (Has.set (Has.set (Has.set (Has.set (Has.set (Has.set (Has.drewN H0 _) 0 (.int .i64 (S ((q + 90) % 360)))) 1 (.int .i64 (S (q % 360)))) 2 (.int .i64 (- S (q % 360)))) 3 (.int .i64 (S ((q + 90) % 360)))) 4 (.int .i64 0)) 5 (.int .i64 0))) rfl ⟨by rw [E.out], by repeat (first | (with_reducible first | exact Below.refl _ _ | apply below_alloc | apply pw_below_drewN | apply below_drew1) | (with_reducible refine below_set ?_ (by omega)))⟩
end Go.Proofs.YtmbnlklinmmkdaaDoor.Turns
