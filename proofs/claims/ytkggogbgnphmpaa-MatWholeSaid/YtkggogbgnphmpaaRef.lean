/- The walks of the document's functions on numbers, and of those that keep the first error. -/
import Derived.Test.YtkggogbgnphmpaaBase
namespace Go.Proofs.Ytkggogbgnphmpaa.Ref
open Go.RowKit Go.Proofs.YtkggogbgnphmpaaW.PrintWords Go.Proofs.YtkggogbgnphmpaaW.PrintLast Go.Proofs.YtkggogbgnphmpaaW.PrintMore
open Go.Proofs.Ytkggogbgnphmpaa.Sem Go.Proofs.Ytkggogbgnphmpaa.Base

theorem ret_int {k : IntKind} {a b : Int} (h : a = b) : Ending.returned (.int k a) = .returned (.int k b) := by rw [h]

set_option maxHeartbeats 1600000 in
set_option maxRecDepth 100000 in
theorem rRounded (a b : Int) (w : World) (ha : -4611686018427387904 ≤ a) (ha2 : a ≤ 4611686018427387904) (hb1 : -2147483648 ≤ b) (hb2 : b ≤ 2147483647) (hb : b ≠ 0) :
    Calls Try.prog 49 #[.int .i64 a, .int .i64 b] w fun e w' => e = .returned (.int .i64 (rnd a b)) ∧ Drawn0 w w' := by
  obtain ⟨q, r, q0, q1, r0, r1, h⟩ := parts a b ha ha2 hb1 hb2 hb
  have c3 : (b == 0) = false := beq_eq_false_iff_ne.mpr (by omega)
  clear hb
  rcases h with ⟨na, nb, e1, e2, e3⟩ | ⟨na, nb, e1, e2, e3⟩ | ⟨na, nb, e1, e2, e3⟩ | ⟨na, nb, e1, e2, e3⟩
  · have E := Aside0.mk (And.intro e1 (And.intro e2 e3))
    clear e1 e2 e3
    have c1 : decide (a < 0) = true := decide_eq_true (by omega)
    have c2 : decide (b < 0) = true := decide_eq_true (by omega)
    go_enter Try.func49, Try.ntmps49
    go_wp2
    go_quiet (fail)
    go_wp2
    all_goals
      go_ret
      refine ⟨ret_int ?_, by repeat (first | exact Drawn0.refl _ | apply Drawn0.step)⟩
      obtain ⟨e1, e2, e3⟩ := E.out
      rw [e3]
      simp only [e1, e2] at *
      unfold wrap64 at *
      split <;> omega
  · have E := Aside0.mk (And.intro e1 (And.intro e2 e3))
    clear e1 e2 e3
    have c1 : decide (a < 0) = true := decide_eq_true (by omega)
    have c2 : decide (b < 0) = false := decide_eq_false (by omega)
    go_enter Try.func49, Try.ntmps49
    go_wp2
    go_quiet (fail)
    go_wp2
    all_goals
      go_ret
      refine ⟨ret_int ?_, by repeat (first | exact Drawn0.refl _ | apply Drawn0.step)⟩
      obtain ⟨e1, e2, e3⟩ := E.out
      rw [e3]
      simp only [e1, e2] at *
      unfold wrap64 at *
      split <;> omega
  · have E := Aside0.mk (And.intro e1 (And.intro e2 e3))
    clear e1 e2 e3
    have c1 : decide (a < 0) = false := decide_eq_false (by omega)
    have c2 : decide (b < 0) = true := decide_eq_true (by omega)
    go_enter Try.func49, Try.ntmps49
    go_wp2
    go_quiet (fail)
    go_wp2
    all_goals
      go_ret
      refine ⟨ret_int ?_, by repeat (first | exact Drawn0.refl _ | apply Drawn0.step)⟩
      obtain ⟨e1, e2, e3⟩ := E.out
      rw [e3]
      simp only [e1, e2] at *
      unfold wrap64 at *
      split <;> omega
  · have E := Aside0.mk (And.intro e1 (And.intro e2 e3))
    clear e1 e2 e3
    have c1 : decide (a < 0) = false := decide_eq_false (by omega)
    have c2 : decide (b < 0) = false := decide_eq_false (by omega)
    go_enter Try.func49, Try.ntmps49
    go_wp2
    go_quiet (fail)
    go_wp2
    all_goals
      go_ret
      refine ⟨ret_int ?_, by repeat (first | exact Drawn0.refl _ | apply Drawn0.step)⟩
      obtain ⟨e1, e2, e3⟩ := E.out
      rw [e3]
      simp only [e1, e2] at *
      unfold wrap64 at *
      split <;> omega

set_option maxHeartbeats 1600000 in
set_option maxRecDepth 100000 in
theorem rMul (a b : Int) (w : World) : Calls Try.prog 38 #[.int .i64 a, .int .i64 b] w fun e w' => e = .returned (.tuple #[.int .i64 (mulR a b).1, .int .i64 (mulR a b).2]) ∧ Drawn0 w w' := by
  cases ha : fitB a
  · rw [mulR_no (by rw [ha]; rfl)]
    go_enter Try.func38, Try.ntmps38
    go_wp2_with (go_at_call 15; ((with_reducible refine (rFits _ _).mono ?_); rintro e w' ⟨rfl, ⟨nd, rfl⟩⟩))
    go_ret2
    exact ⟨rfl, by repeat (first | exact Drawn0.refl _ | apply Drawn0.step)⟩
  · cases hb : fitB b
    · rw [mulR_no (by rw [ha, hb]; rfl)]
      go_enter Try.func38, Try.ntmps38
      go_wp2_with (go_at_call 15; ((with_reducible refine (rFits _ _).mono ?_); rintro e w' ⟨rfl, ⟨nd, rfl⟩⟩))
      go_ret2
      exact ⟨rfl, by repeat (first | exact Drawn0.refl _ | apply Drawn0.step)⟩
    · rw [mulR_fit ha hb]
      have h1 := fitB_true.1 ha
      have h2 := fitB_true.1 hb
      obtain ⟨p1, p2⟩ := prod_bounds h1.1 h1.2 h2.1 h2.2
      have HR := fun w => Aside0.mk (rRounded (a * b) 65536 w p1 p2 (by decide) (by decide) (by decide))
      clear h1 h2
      go_enter Try.func38, Try.ntmps38
      go_wp2_with (first | (go_at_call 15; ((with_reducible refine (rFits _ _).mono ?_); rintro e w' ⟨rfl, ⟨nd, rfl⟩⟩)) | (go_at_call 49; ((with_reducible refine (HR _).out.mono ?_); rintro e w' ⟨rfl, ⟨nd, rfl⟩⟩)) | (go_at_call 48; ((with_reducible refine (rKeep _ _).mono ?_); rintro e w' ⟨rfl, ⟨nd, rfl⟩⟩)))
      go_ret2
      exact ⟨rfl, by repeat (first | exact Drawn0.refl _ | apply Drawn0.step)⟩

set_option maxHeartbeats 1600000 in
set_option maxRecDepth 100000 in
theorem rDiv (a b : Int) (w : World) : Calls Try.prog 45 #[.int .i64 a, .int .i64 b] w fun e w' => e = .returned (.tuple #[.int .i64 (divR a b).1, .int .i64 (divR a b).2]) ∧ Drawn0 w w' := by
  cases ha : fitB a
  · rw [divR_no (by rw [ha]; rfl)]
    go_enter Try.func45, Try.ntmps45
    go_wp2_with (go_at_call 15; ((with_reducible refine (rFits _ _).mono ?_); rintro e w' ⟨rfl, ⟨nd, rfl⟩⟩))
    go_ret2
    exact ⟨rfl, by repeat (first | exact Drawn0.refl _ | apply Drawn0.step)⟩
  · cases hb : fitB b
    · rw [divR_no (by rw [ha, hb]; rfl)]
      go_enter Try.func45, Try.ntmps45
      go_wp2_with (go_at_call 15; ((with_reducible refine (rFits _ _).mono ?_); rintro e w' ⟨rfl, ⟨nd, rfl⟩⟩))
      go_ret2
      exact ⟨rfl, by repeat (first | exact Drawn0.refl _ | apply Drawn0.step)⟩
    · have h1 := fitB_true.1 ha
      have h2 := fitB_true.1 hb
      by_cases h0 : b = 0
      · rw [divR_zero ha hb h0]
        have c0 : (b == 0) = true := beq_iff_eq.mpr h0
        clear h0 h1 h2
        go_enter Try.func45, Try.ntmps45
        go_wp2_with (go_at_call 15; ((with_reducible refine (rFits _ _).mono ?_); rintro e w' ⟨rfl, ⟨nd, rfl⟩⟩))
        go_ret2
        exact ⟨rfl, by repeat (first | exact Drawn0.refl _ | apply Drawn0.step)⟩
      · rw [divR_fit ha hb h0]
        have c0 : (b == 0) = false := beq_eq_false_iff_ne.mpr h0
        have p1 : -4611686018427387904 ≤ a * 65536 := by omega
        have p2 : a * 65536 ≤ 4611686018427387904 := by omega
        obtain ⟨b1, b2⟩ := h2
        have HR := fun w => Aside0.mk (rRounded (a * 65536) b w p1 p2 b1 b2 h0)
        clear h1 h0 b1 b2
        go_enter Try.func45, Try.ntmps45
        go_wp2_with (first | (go_at_call 15; ((with_reducible refine (rFits _ _).mono ?_); rintro e w' ⟨rfl, ⟨nd, rfl⟩⟩)) | (go_at_call 49; ((with_reducible refine (HR _).out.mono ?_); rintro e w' ⟨rfl, ⟨nd, rfl⟩⟩)) | (go_at_call 48; ((with_reducible refine (rKeep _ _).mono ?_); rintro e w' ⟨rfl, ⟨nd, rfl⟩⟩)))
        go_ret2
        exact ⟨rfl, by repeat (first | exact Drawn0.refl _ | apply Drawn0.step)⟩

set_option maxHeartbeats 1600000 in
set_option maxRecDepth 100000 in
theorem rAdd (a b : Int) (w : World) : Calls Try.prog 40 #[.int .i64 a, .int .i64 b] w fun e w' => e = .returned (.tuple #[.int .i64 (addR a b).1, .int .i64 (addR a b).2]) ∧ Drawn0 w w' := by
  cases ha : fitB a
  · rw [addR_no (by rw [ha]; rfl)]
    go_enter Try.func40, Try.ntmps40
    go_wp2_with (go_at_call 15; ((with_reducible refine (rFits _ _).mono ?_); rintro e w' ⟨rfl, ⟨nd, rfl⟩⟩))
    go_ret2
    exact ⟨rfl, by repeat (first | exact Drawn0.refl _ | apply Drawn0.step)⟩
  · cases hb : fitB b
    · rw [addR_no (by rw [ha, hb]; rfl)]
      go_enter Try.func40, Try.ntmps40
      go_wp2_with (go_at_call 15; ((with_reducible refine (rFits _ _).mono ?_); rintro e w' ⟨rfl, ⟨nd, rfl⟩⟩))
      go_ret2
      exact ⟨rfl, by repeat (first | exact Drawn0.refl _ | apply Drawn0.step)⟩
    · rw [addR_fit ha hb]
      have h1 := fitB_true.1 ha
      have h2 := fitB_true.1 hb
      have p1 : -4611686018427387904 ≤ a + b := by omega
      have p2 : a + b ≤ 4611686018427387904 := by omega
      clear h1 h2
      go_enter Try.func40, Try.ntmps40
      go_wp2_with (first | (go_at_call 15; ((with_reducible refine (rFits _ _).mono ?_); rintro e w' ⟨rfl, ⟨nd, rfl⟩⟩)) | (go_at_call 48; ((with_reducible refine (rKeep _ _).mono ?_); rintro e w' ⟨rfl, ⟨nd, rfl⟩⟩)))
      go_ret2
      exact ⟨rfl, by repeat (first | exact Drawn0.refl _ | apply Drawn0.step)⟩

set_option maxHeartbeats 1600000 in
set_option maxRecDepth 100000 in
theorem rSub (a b : Int) (w : World) : Calls Try.prog 44 #[.int .i64 a, .int .i64 b] w fun e w' => e = .returned (.tuple #[.int .i64 (subR a b).1, .int .i64 (subR a b).2]) ∧ Drawn0 w w' := by
  cases ha : fitB a
  · rw [subR_no (by rw [ha]; rfl)]
    go_enter Try.func44, Try.ntmps44
    go_wp2_with (go_at_call 15; ((with_reducible refine (rFits _ _).mono ?_); rintro e w' ⟨rfl, ⟨nd, rfl⟩⟩))
    go_ret2
    exact ⟨rfl, by repeat (first | exact Drawn0.refl _ | apply Drawn0.step)⟩
  · cases hb : fitB b
    · rw [subR_no (by rw [ha, hb]; rfl)]
      go_enter Try.func44, Try.ntmps44
      go_wp2_with (go_at_call 15; ((with_reducible refine (rFits _ _).mono ?_); rintro e w' ⟨rfl, ⟨nd, rfl⟩⟩))
      go_ret2
      exact ⟨rfl, by repeat (first | exact Drawn0.refl _ | apply Drawn0.step)⟩
    · rw [subR_fit ha hb]
      have h1 := fitB_true.1 ha
      have h2 := fitB_true.1 hb
      have p1 : -4611686018427387904 ≤ a - b := by omega
      have p2 : a - b ≤ 4611686018427387904 := by omega
      clear h1 h2
      go_enter Try.func44, Try.ntmps44
      go_wp2_with (first | (go_at_call 15; ((with_reducible refine (rFits _ _).mono ?_); rintro e w' ⟨rfl, ⟨nd, rfl⟩⟩)) | (go_at_call 48; ((with_reducible refine (rKeep _ _).mono ?_); rintro e w' ⟨rfl, ⟨nd, rfl⟩⟩)))
      go_ret2
      exact ⟨rfl, by repeat (first | exact Drawn0.refl _ | apply Drawn0.step)⟩

set_option maxHeartbeats 1600000 in
set_option maxRecDepth 100000 in
theorem rTook {g : Nat} {s a b : Int} {w0 W : World} (hI : Has W g #[.int .i64 s] 50) (hg : w0.heap.size ≤ g) (hB : Below w0.heap.size w0 W) :
    Calls Try.prog 39 #[.pointer (some ⟨g, 0, none⟩), .int .i64 a, .int .i64 b] W fun e w' => e = .returned (.int .i64 (tk s (a, b)).1) ∧ Has w' g #[.int .i64 (tk s (a, b)).2] 50 ∧ Below w0.heap.size w0 w' ∧ KeepBut W w' g none := by
  have c0 : W.cell? ⟨g, 0, none⟩ = some (.int .i64 s) := hI.cell 0
  have f0 : W.frozen? ⟨g, 0, none⟩ = false := hI.free 0
  by_cases hs : s = 0
  · have e : tk s (a, b) = (a, b) := by unfold tk; rw [if_pos hs]
    rw [e]
    have c1 : (s == 0) = true := beq_iff_eq.mpr hs
    clear hs e
    go_enter Try.func39, Try.ntmps39
    go_wp2
    go_ret
    exact ⟨rfl, hI.set 0 _, by repeat (first | (with_reducible first | exact hB | apply below_alloc | apply pw_below_drewN | apply below_drew1) | (with_reducible refine below_set ?_ (by omega))), by repeat (first | (with_reducible first | exact KeepBut.refl _ _ _ | apply KeepBut.set_ | apply keep_drewN | apply keep_drew))⟩
  · have e : tk s (a, b) = (a, s) := by unfold tk; rw [if_neg hs]
    rw [e]
    have c1 : (s == 0) = false := beq_eq_false_iff_ne.mpr hs
    clear hs e
    go_enter Try.func39, Try.ntmps39
    go_wp2
    go_ret
    exact ⟨rfl, hI, by repeat (first | (with_reducible first | exact hB | apply below_alloc | apply pw_below_drewN | apply below_drew1) | (with_reducible refine below_set ?_ (by omega))), by repeat (first | (with_reducible first | exact KeepBut.refl _ _ _ | apply KeepBut.set_ | apply keep_drewN | apply keep_drew))⟩

set_option maxHeartbeats 1600000 in
set_option maxRecDepth 100000 in
theorem rsMul {g : Nat} {s a b : Int} {w0 W : World} (hI : Has W g #[.int .i64 s] 50) (hg : w0.heap.size ≤ g) (hB : Below w0.heap.size w0 W) :
    Calls Try.prog 25 #[.pointer (some ⟨g, 0, none⟩), .int .i64 a, .int .i64 b] W fun e w' => e = .returned (.int .i64 (mulS s a b).1) ∧ Has w' g #[.int .i64 (mulS s a b).2] 50 ∧ Below w0.heap.size w0 w' ∧ KeepBut W w' g none := by
  go_enter Try.func25, Try.ntmps25
  go_wp2_with fail
  refine (rMul _ _ _).mono ?_
  rintro e w1 ⟨rfl, ⟨nd, rfl⟩⟩
  have hI1 := Aside0.mk (hI.drewN nd)
  have hB1 := Aside0.mk (pw_below_drewN hB nd)
  have hK1 := Aside0.mk (keep_drewN (KeepBut.refl W g none) nd)
  clear hI hB
  go_wp2_with fail
  refine (rTook hI1.out hg hB1.out).mono ?_
  rintro e w2 ⟨rfl, hI2, hB2, hK2⟩
  have hI2 := Aside0.mk hI2
  have hB2 := Aside0.mk hB2
  have hK2 := Aside0.mk (hK1.out.trans hK2 (.inl rfl))
  go_wp2_with fail
  go_ret
  exact ⟨rfl, hI2.out, hB2.out, hK2.out⟩

set_option maxHeartbeats 1600000 in
set_option maxRecDepth 100000 in
theorem rsAdd {g : Nat} {s a b : Int} {w0 W : World} (hI : Has W g #[.int .i64 s] 50) (hg : w0.heap.size ≤ g) (hB : Below w0.heap.size w0 W) :
    Calls Try.prog 26 #[.pointer (some ⟨g, 0, none⟩), .int .i64 a, .int .i64 b] W fun e w' => e = .returned (.int .i64 (addS s a b).1) ∧ Has w' g #[.int .i64 (addS s a b).2] 50 ∧ Below w0.heap.size w0 w' ∧ KeepBut W w' g none := by
  go_enter Try.func26, Try.ntmps26
  go_wp2_with fail
  refine (rAdd _ _ _).mono ?_
  rintro e w1 ⟨rfl, ⟨nd, rfl⟩⟩
  have hI1 := Aside0.mk (hI.drewN nd)
  have hB1 := Aside0.mk (pw_below_drewN hB nd)
  have hK1 := Aside0.mk (keep_drewN (KeepBut.refl W g none) nd)
  clear hI hB
  go_wp2_with fail
  refine (rTook hI1.out hg hB1.out).mono ?_
  rintro e w2 ⟨rfl, hI2, hB2, hK2⟩
  have hI2 := Aside0.mk hI2
  have hB2 := Aside0.mk hB2
  have hK2 := Aside0.mk (hK1.out.trans hK2 (.inl rfl))
  go_wp2_with fail
  go_ret
  exact ⟨rfl, hI2.out, hB2.out, hK2.out⟩

set_option maxHeartbeats 1600000 in
set_option maxRecDepth 100000 in
theorem rsSub {g : Nat} {s a b : Int} {w0 W : World} (hI : Has W g #[.int .i64 s] 50) (hg : w0.heap.size ≤ g) (hB : Below w0.heap.size w0 W) :
    Calls Try.prog 32 #[.pointer (some ⟨g, 0, none⟩), .int .i64 a, .int .i64 b] W fun e w' => e = .returned (.int .i64 (subS s a b).1) ∧ Has w' g #[.int .i64 (subS s a b).2] 50 ∧ Below w0.heap.size w0 w' ∧ KeepBut W w' g none := by
  go_enter Try.func32, Try.ntmps32
  go_wp2_with fail
  refine (rSub _ _ _).mono ?_
  rintro e w1 ⟨rfl, ⟨nd, rfl⟩⟩
  have hI1 := Aside0.mk (hI.drewN nd)
  have hB1 := Aside0.mk (pw_below_drewN hB nd)
  have hK1 := Aside0.mk (keep_drewN (KeepBut.refl W g none) nd)
  clear hI hB
  go_wp2_with fail
  refine (rTook hI1.out hg hB1.out).mono ?_
  rintro e w2 ⟨rfl, hI2, hB2, hK2⟩
  have hI2 := Aside0.mk hI2
  have hB2 := Aside0.mk hB2
  have hK2 := Aside0.mk (hK1.out.trans hK2 (.inl rfl))
  go_wp2_with fail
  go_ret
  exact ⟨rfl, hI2.out, hB2.out, hK2.out⟩

set_option maxHeartbeats 1600000 in
set_option maxRecDepth 100000 in
theorem rsDiv {g : Nat} {s a b : Int} {w0 W : World} (hI : Has W g #[.int .i64 s] 50) (hg : w0.heap.size ≤ g) (hB : Below w0.heap.size w0 W) :
    Calls Try.prog 33 #[.pointer (some ⟨g, 0, none⟩), .int .i64 a, .int .i64 b] W fun e w' => e = .returned (.int .i64 (divS s a b).1) ∧ Has w' g #[.int .i64 (divS s a b).2] 50 ∧ Below w0.heap.size w0 w' ∧ KeepBut W w' g none := by
  go_enter Try.func33, Try.ntmps33
  go_wp2_with fail
  refine (rDiv _ _ _).mono ?_
  rintro e w1 ⟨rfl, ⟨nd, rfl⟩⟩
  have hI1 := Aside0.mk (hI.drewN nd)
  have hB1 := Aside0.mk (pw_below_drewN hB nd)
  have hK1 := Aside0.mk (keep_drewN (KeepBut.refl W g none) nd)
  clear hI hB
  go_wp2_with fail
  refine (rTook hI1.out hg hB1.out).mono ?_
  rintro e w2 ⟨rfl, hI2, hB2, hK2⟩
  have hI2 := Aside0.mk hI2
  have hB2 := Aside0.mk hB2
  have hK2 := Aside0.mk (hK1.out.trans hK2 (.inl rfl))
  go_wp2_with fail
  go_ret
  exact ⟨rfl, hI2.out, hB2.out, hK2.out⟩

set_option maxHeartbeats 1600000 in
set_option maxRecDepth 100000 in
theorem rSqrt (a : Int) (w : World) : Calls Try.prog 36 #[.int .i64 a] w fun e w' => e = .returned (.tuple #[.int .i64 (sqrtR a).1, .int .i64 (sqrtR a).2]) ∧ Drawn0 w w' := by
  cases ha : fitB a
  · rw [sqrtR_no (by rw [ha]; simp)]
    go_enter Try.func36, Try.ntmps36
    go_wp2_with (go_at_call 15; ((with_reducible refine (rFits _ _).mono ?_); rintro e w' ⟨rfl, ⟨nd, rfl⟩⟩))
    go_ret2
    exact ⟨rfl, by repeat (first | exact Drawn0.refl _ | apply Drawn0.step)⟩
  · by_cases hn : a < 0
    · rw [sqrtR_no (fun h => h.2 hn)]
      have c1 : decide (a < 0) = true := decide_eq_true hn
      go_enter Try.func36, Try.ntmps36
      go_wp2_with (go_at_call 15; ((with_reducible refine (rFits _ _).mono ?_); rintro e w' ⟨rfl, ⟨nd, rfl⟩⟩))
      go_ret2
      exact ⟨rfl, by repeat (first | exact Drawn0.refl _ | apply Drawn0.step)⟩
    · have hb := fitB_true.1 ha
      have c1 : decide (a < 0) = false := decide_eq_false hn
      have HN := Aside0.mk hn
      obtain ⟨b1, b2⟩ := hb
      have b0 : 0 ≤ a := by omega
      clear hn
      go_enter Try.func36, Try.ntmps36
      go_wp2_with (go_at_call 15; ((with_reducible refine (rFits _ _).mono ?_); rintro e w' ⟨rfl, ⟨nd, rfl⟩⟩))
      go_loop [5, 6] (fun lo hi => ∃ x y : Int, lo = .int .i64 x ∧ hi = .int .i64 y ∧ 0 ≤ x ∧ x ≤ y ∧ y ≤ 12000000 ∧ x * x ≤ a * 65536 ∧ a * 65536 < (y + 1) * (y + 1)) (fun lo hi => (intOf hi - intOf lo).toNat)
      case atStart => exact ⟨0, 12000000, rfl, rfl, by omega, by omega, by omega, by omega, by omega⟩
      case round =>
        obtain ⟨x, y, rfl, rfl, hx, hxy, hy, hl, hh⟩ := hrel
        have n0 : 0 ≤ a * 65536 := by omega
        have n1 : a * 65536 ≤ 140737488355328 := by omega
        by_cases hlt : x < y
        · obtain ⟨m, hm, m1, m2⟩ : ∃ m, (x + y + 1) / 2 = m ∧ x + y ≤ 2 * m ∧ 2 * m ≤ x + y + 1 := ⟨_, rfl, by omega, by omega⟩
          have s1 : m * m ≤ 144000000000000 := sq_le (s := 12000000) (by omega) (by omega)
          have s0 : 0 ≤ m * m := Int.mul_nonneg (by omega) (by omega)
          by_cases c : m * m ≤ a * 65536
          · go_wp2
            go_round
            case rel => exact ⟨m, y, (by first | rfl | rw [hm]), rfl, by omega, by omega, by omega, c, hh⟩
            case measure => simp [intOf]; omega
          · go_wp2
            go_round
            case rel => exact ⟨x, m - 1, rfl, (by first | rfl | rw [hm]), by omega, by omega, by omega, hl, by rw [show m - 1 + 1 = m by omega]; omega⟩
            case measure => simp [intOf]; omega
        · obtain rfl : x = y := by omega
          have E0 := Aside0.mk (sqrtR_of ha (by omega) ⟨hx, hl, hh⟩)
          have e := sq_next x
          have s1 : x * x ≤ 144000000000000 := sq_le (s := 12000000) (by omega) (by omega)
          have s0 : 0 ≤ x * x := Int.mul_nonneg hx hx
          have s2 : (x + 1) * (x + 1) ≤ 144000024000001 := by omega
          have s3 : 0 ≤ (x + 1) * (x + 1) := by omega
          have E2 := Aside0.mk e
          clear e
          by_cases c : a * 65536 - x * x > x
          · have E := Aside0.mk (show sqrtR a = (x + 1, 0) by rw [E0.out, if_pos c])
            have c2 : a * 65536 - x * x > (x + 1) * (x + 1) - a * 65536 := by have := E2.out; omega
            go_wp2
            go_ret2
            exact ⟨by rw [E.out]; rfl, by repeat (first | exact Drawn0.refl _ | apply Drawn0.step)⟩
          · have E := Aside0.mk (show sqrtR a = (x, 0) by rw [E0.out, if_neg c])
            have c2 : ¬ a * 65536 - x * x > (x + 1) * (x + 1) - a * 65536 := by have := E2.out; omega
            go_wp2
            go_ret2
            exact ⟨by rw [E.out]; rfl, by repeat (first | exact Drawn0.refl _ | apply Drawn0.step)⟩
end Go.Proofs.Ytkggogbgnphmpaa.Ref
