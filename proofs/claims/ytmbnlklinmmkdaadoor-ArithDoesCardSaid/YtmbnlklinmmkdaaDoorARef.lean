import Derived.Test.YtmbnlklinmmkdaaDoorABase
import Derived.Test.YtmbnlklinmmkdaaDoorQ8
namespace Go.Proofs.YtmbnlklinmmkdaaDoor.Ref
open Go.RowKit Go.Proofs.YtmbnlklinmmkdaaDoorW.PrintWords Go.Proofs.YtmbnlklinmmkdaaDoorW.PrintLast Go.Proofs.YtmbnlklinmmkdaaDoorW.PrintMore
open Go.Proofs.YtmbnlklinmmkdaaDoor.Sem Go.Proofs.YtmbnlklinmmkdaaDoor.Base
theorem rFits_eq (a : Int) : PArithDoes.mezzotintref01_Fits.f a = some (fitB a) := fits_eq a
theorem rKeep_eq (a : Int) : PArithDoes.mezzotintref01_keep.f a = some (keepR a) := by
  unfold PArithDoes.mezzotintref01_keep.f keepR; rw [rFits_eq]; simp only [Option.bind_some]; split <;> rfl
theorem rFits (a : Int) (w : World) : Calls Tryd.prog 37 #[.int .i64 a] w fun e w' => e = .returned (.bool (fitB a)) ∧ Drawn0 w w' :=
  PArithDoes.mezzotintref01_Fits.calls a _ w (rFits_eq a)
theorem rKeep (a : Int) (w : World) : Calls Tryd.prog 59 #[.int .i64 a] w fun e w' => e = .returned (.tuple #[.int .i64 (keepR a).1, .int .i64 (keepR a).2]) ∧ Drawn0 w w' :=
  PArithDoes.mezzotintref01_keep.calls a _ _ w (rKeep_eq a)
theorem rAdd_eq (a b : Int) : PArithDoes.mezzotintref01_Add.f a b = some (addR a b) := by
  unfold PArithDoes.mezzotintref01_Add.f addR
  rw [rFits_eq, rFits_eq]; simp only [Option.bind_some]
  cases ha : fitB a <;> cases hb : fitB b <;> simp
  have h1 := fitB_true.1 ha
  have h2 := fitB_true.1 hb
  rw [w64 (by omega) (by omega), rKeep_eq]; rfl
theorem rSub_eq (a b : Int) : PArithDoes.mezzotintref01_Sub.f a b = some (subR a b) := by
  unfold PArithDoes.mezzotintref01_Sub.f subR
  rw [rFits_eq, rFits_eq]; simp only [Option.bind_some]
  cases ha : fitB a <;> cases hb : fitB b <;> simp
  have h1 := fitB_true.1 ha
  have h2 := fitB_true.1 hb
  rw [w64 (by omega) (by omega), rKeep_eq]; rfl
theorem rAdd (a b : Int) (w : World) : Calls Tryd.prog 31 #[.int .i64 a, .int .i64 b] w fun e w' => e = .returned (.tuple #[.int .i64 (addR a b).1, .int .i64 (addR a b).2]) ∧ Drawn0 w w' :=
  PArithDoes.mezzotintref01_Add.calls a b _ _ w (rAdd_eq a b)
theorem rSub (a b : Int) (w : World) : Calls Tryd.prog 32 #[.int .i64 a, .int .i64 b] w fun e w' => e = .returned (.tuple #[.int .i64 (subR a b).1, .int .i64 (subR a b).2]) ∧ Drawn0 w w' :=
  PArithDoes.mezzotintref01_Sub.calls a b _ _ w (rSub_eq a b)
theorem ret_int {k : IntKind} {a b : Int} (h : a = b) : Ending.returned (.int k a) = .returned (.int k b) := by rw [h]
set_option maxHeartbeats 1600000 in
set_option maxRecDepth 100000 in
theorem rRounded (a b : Int) (w : World) (ha : -4611686018427387904 ≤ a) (ha2 : a ≤ 4611686018427387904) (hb1 : -2147483648 ≤ b) (hb2 : b ≤ 2147483647) (hb : b ≠ 0) :
    Calls Tryd.prog 60 #[.int .i64 a, .int .i64 b] w fun e w' => e = .returned (.int .i64 (rnd a b)) ∧ Drawn0 w w' := by
  obtain ⟨q, r, q0, q1, r0, r1, h⟩ := parts a b ha ha2 hb1 hb2 hb
  have c3 : (b == 0) = false := beq_eq_false_iff_ne.mpr (by omega)
  clear hb
  rcases h with ⟨na, nb, e1, e2, e3⟩ | ⟨na, nb, e1, e2, e3⟩ | ⟨na, nb, e1, e2, e3⟩ | ⟨na, nb, e1, e2, e3⟩
  · have E := Aside0.mk (And.intro e1 (And.intro e2 e3))
    clear e1 e2 e3
    have c1 : decide (a < 0) = true := decide_eq_true (by omega)
    have c2 : decide (b < 0) = true := decide_eq_true (by omega)
    go_enter Tryd.func60, Tryd.ntmps60
    go_wp2
    go_quiet (fail)
    go_wp2
    all_goals
      go_ret
      refine ⟨ret_int ?_, by repeat (first | exact Drawn0.refl _ | apply Drawn0.step)⟩
      obtain ⟨e1, e2, e3⟩ := E.out
      rw [e3]
      simp only [e1, e2] at *
      unfold wrap64 at *
      split <;> omega
  · have E := Aside0.mk (And.intro e1 (And.intro e2 e3))
    clear e1 e2 e3
    have c1 : decide (a < 0) = true := decide_eq_true (by omega)
    have c2 : decide (b < 0) = false := decide_eq_false (by omega)
    go_enter Tryd.func60, Tryd.ntmps60
    go_wp2
    go_quiet (fail)
    go_wp2
    all_goals
      go_ret
      refine ⟨ret_int ?_, by repeat (first | exact Drawn0.refl _ | apply Drawn0.step)⟩
      obtain ⟨e1, e2, e3⟩ := E.out
      rw [e3]
      simp only [e1, e2] at *
      unfold wrap64 at *
      split <;> omega
  · have E := Aside0.mk (And.intro e1 (And.intro e2 e3))
    clear e1 e2 e3
    have c1 : decide (a < 0) = false := decide_eq_false (by omega)
    have c2 : decide (b < 0) = true := decide_eq_true (by omega)
    go_enter Tryd.func60, Tryd.ntmps60
    go_wp2
    go_quiet (fail)
    go_wp2
    all_goals
      go_ret
      refine ⟨ret_int ?_, by repeat (first | exact Drawn0.refl _ | apply Drawn0.step)⟩
      obtain ⟨e1, e2, e3⟩ := E.out
      rw [e3]
      simp only [e1, e2] at *
      unfold wrap64 at *
      split <;> omega
  · have E := Aside0.mk (And.intro e1 (And.intro e2 e3))
    clear e1 e2 e3
    have c1 : decide (a < 0) = false := decide_eq_false (by omega)
    have c2 : decide (b < 0) = false := decide_eq_false (by omega)
    go_enter Tryd.func60, Tryd.ntmps60
    go_wp2
    go_quiet (fail)
    go_wp2
    all_goals
      go_ret
      refine ⟨ret_int ?_, by repeat (first | exact Drawn0.refl _ | apply Drawn0.step)⟩
      obtain ⟨e1, e2, e3⟩ := E.out
      rw [e3]
      simp only [e1, e2] at *
      unfold wrap64 at *
      split <;> omega
set_option maxHeartbeats 1600000 in
set_option maxRecDepth 100000 in
theorem rMul (a b : Int) (w : World) : Calls Tryd.prog 33 #[.int .i64 a, .int .i64 b] w fun e w' => e = .returned (.tuple #[.int .i64 (mulR a b).1, .int .i64 (mulR a b).2]) ∧ Drawn0 w w' := by
  cases ha : fitB a
  · rw [mulR_no (by rw [ha]; rfl)]
    go_enter Tryd.func33, Tryd.ntmps33
    go_wp2_with (go_at_call 37; ((with_reducible refine (rFits _ _).mono ?_); rintro e w' ⟨rfl, ⟨nd, rfl⟩⟩))
    go_ret2
    exact ⟨rfl, by repeat (first | exact Drawn0.refl _ | apply Drawn0.step)⟩
  · cases hb : fitB b
    · rw [mulR_no (by rw [ha, hb]; rfl)]
      go_enter Tryd.func33, Tryd.ntmps33
      go_wp2_with (go_at_call 37; ((with_reducible refine (rFits _ _).mono ?_); rintro e w' ⟨rfl, ⟨nd, rfl⟩⟩))
      go_ret2
      exact ⟨rfl, by repeat (first | exact Drawn0.refl _ | apply Drawn0.step)⟩
    · rw [mulR_fit ha hb]
      have h1 := fitB_true.1 ha
      have h2 := fitB_true.1 hb
      obtain ⟨p1, p2⟩ := prod_bounds h1.1 h1.2 h2.1 h2.2
      have HR := fun w => Aside0.mk (rRounded (a * b) 65536 w p1 p2 (by decide) (by decide) (by decide))
      clear h1 h2
      go_enter Tryd.func33, Tryd.ntmps33
      go_wp2_with (first | (go_at_call 37; ((with_reducible refine (rFits _ _).mono ?_); rintro e w' ⟨rfl, ⟨nd, rfl⟩⟩)) | (go_at_call 60; ((with_reducible refine (HR _).out.mono ?_); rintro e w' ⟨rfl, ⟨nd, rfl⟩⟩)) | (go_at_call 59; ((with_reducible refine (rKeep _ _).mono ?_); rintro e w' ⟨rfl, ⟨nd, rfl⟩⟩)))
      go_ret2
      exact ⟨rfl, by repeat (first | exact Drawn0.refl _ | apply Drawn0.step)⟩
set_option maxHeartbeats 1600000 in
set_option maxRecDepth 100000 in
theorem rDiv (a b : Int) (w : World) : Calls Tryd.prog 34 #[.int .i64 a, .int .i64 b] w fun e w' => e = .returned (.tuple #[.int .i64 (divR a b).1, .int .i64 (divR a b).2]) ∧ Drawn0 w w' := by
  cases ha : fitB a
  · rw [divR_no (by rw [ha]; rfl)]
    go_enter Tryd.func34, Tryd.ntmps34
    go_wp2_with (go_at_call 37; ((with_reducible refine (rFits _ _).mono ?_); rintro e w' ⟨rfl, ⟨nd, rfl⟩⟩))
    go_ret2
    exact ⟨rfl, by repeat (first | exact Drawn0.refl _ | apply Drawn0.step)⟩
  · cases hb : fitB b
    · rw [divR_no (by rw [ha, hb]; rfl)]
      go_enter Tryd.func34, Tryd.ntmps34
      go_wp2_with (go_at_call 37; ((with_reducible refine (rFits _ _).mono ?_); rintro e w' ⟨rfl, ⟨nd, rfl⟩⟩))
      go_ret2
      exact ⟨rfl, by repeat (first | exact Drawn0.refl _ | apply Drawn0.step)⟩
    · have h1 := fitB_true.1 ha
      have h2 := fitB_true.1 hb
      by_cases h0 : b = 0
      · rw [divR_zero ha hb h0]
        have c0 : (b == 0) = true := beq_iff_eq.mpr h0
        clear h0 h1 h2
        go_enter Tryd.func34, Tryd.ntmps34
        go_wp2_with (go_at_call 37; ((with_reducible refine (rFits _ _).mono ?_); rintro e w' ⟨rfl, ⟨nd, rfl⟩⟩))
        go_ret2
        exact ⟨rfl, by repeat (first | exact Drawn0.refl _ | apply Drawn0.step)⟩
      · rw [divR_fit ha hb h0]
        have c0 : (b == 0) = false := beq_eq_false_iff_ne.mpr h0
        have p1 : -4611686018427387904 ≤ a * 65536 := by omega
        have p2 : a * 65536 ≤ 4611686018427387904 := by omega
        obtain ⟨b1, b2⟩ := h2
        have HR := fun w => Aside0.mk (rRounded (a * 65536) b w p1 p2 b1 b2 h0)
        clear h1 h0 b1 b2
        go_enter Tryd.func34, Tryd.ntmps34
        go_wp2_with (first | (go_at_call 37; ((with_reducible refine (rFits _ _).mono ?_); rintro e w' ⟨rfl, ⟨nd, rfl⟩⟩)) | (go_at_call 60; ((with_reducible refine (HR _).out.mono ?_); rintro e w' ⟨rfl, ⟨nd, rfl⟩⟩)) | (go_at_call 59; ((with_reducible refine (rKeep _ _).mono ?_); rintro e w' ⟨rfl, ⟨nd, rfl⟩⟩)))
        go_ret2
        exact ⟨rfl, by repeat (first | exact Drawn0.refl _ | apply Drawn0.step)⟩
set_option maxHeartbeats 1600000 in
set_option maxRecDepth 100000 in
theorem rSqrt (a : Int) (w : World) : Calls Tryd.prog 51 #[.int .i64 a] w fun e w' => e = .returned (.tuple #[.int .i64 (sqrtR a).1, .int .i64 (sqrtR a).2]) ∧ Drawn0 w w' := by
  cases ha : fitB a
  · rw [sqrtR_no (by rw [ha]; simp)]
    go_enter Tryd.func51, Tryd.ntmps51
    go_wp2_with (go_at_call 37; ((with_reducible refine (rFits _ _).mono ?_); rintro e w' ⟨rfl, ⟨nd, rfl⟩⟩))
    go_ret2
    exact ⟨rfl, by repeat (first | exact Drawn0.refl _ | apply Drawn0.step)⟩
  · by_cases hn : a < 0
    · rw [sqrtR_no (fun h => h.2 hn)]
      have c1 : decide (a < 0) = true := decide_eq_true hn
      go_enter Tryd.func51, Tryd.ntmps51
      go_wp2_with (go_at_call 37; ((with_reducible refine (rFits _ _).mono ?_); rintro e w' ⟨rfl, ⟨nd, rfl⟩⟩))
      go_ret2
      exact ⟨rfl, by repeat (first | exact Drawn0.refl _ | apply Drawn0.step)⟩
    · have hb := fitB_true.1 ha
      have c1 : decide (a < 0) = false := decide_eq_false hn
      have HN := Aside0.mk hn
      obtain ⟨b1, b2⟩ := hb
      have b0 : 0 ≤ a := by omega
      clear hn
      go_enter Tryd.func51, Tryd.ntmps51
      go_wp2_with (go_at_call 37; ((with_reducible refine (rFits _ _).mono ?_); rintro e w' ⟨rfl, ⟨nd, rfl⟩⟩))
      go_loop [5, 6] (fun lo hi => ∃ x y : Int, lo = .int .i64 x ∧ hi = .int .i64 y ∧ 0 ≤ x ∧ x ≤ y ∧ y ≤ 12000000 ∧ x * x ≤ a * 65536 ∧ a * 65536 < (y + 1) * (y + 1)) (fun lo hi => (intOf hi - intOf lo).toNat)
      case atStart => exact ⟨0, 12000000, rfl, rfl, by omega, by omega, by omega, by omega, by omega⟩
      case round =>
        obtain ⟨x, y, rfl, rfl, hx, hxy, hy, hl, hh⟩ := hrel
        have n0 : 0 ≤ a * 65536 := by omega
        have n1 : a * 65536 ≤ 140737488355328 := by omega
        by_cases hlt : x < y
        · obtain ⟨m, hm, m1, m2⟩ : ∃ m, (x + y + 1) / 2 = m ∧ x + y ≤ 2 * m ∧ 2 * m ≤ x + y + 1 := ⟨_, rfl, by omega, by omega⟩
          have s1 : m * m ≤ 144000000000000 := sq_le (s := 12000000) (by omega) (by omega)
          have s0 : 0 ≤ m * m := Int.mul_nonneg (by omega) (by omega)
          by_cases c : m * m ≤ a * 65536
          · go_wp2
            go_round
            case rel => exact ⟨m, y, (by first | rfl | rw [hm]), rfl, by omega, by omega, by omega, c, hh⟩
            case measure => simp [intOf]; omega
          · go_wp2
            go_round
            case rel => exact ⟨x, m - 1, rfl, (by first | rfl | rw [hm]), by omega, by omega, by omega, hl, by rw [show m - 1 + 1 = m by omega]; omega⟩
            case measure => simp [intOf]; omega
        · obtain rfl : x = y := by omega
          have E0 := Aside0.mk (sqrtR_of ha (by omega) ⟨hx, hl, hh⟩)
          have e := sq_next x
          have s1 : x * x ≤ 144000000000000 := sq_le (s := 12000000) (by omega) (by omega)
          have s0 : 0 ≤ x * x := Int.mul_nonneg hx hx
          have s2 : (x + 1) * (x + 1) ≤ 144000024000001 := by omega
          have s3 : 0 ≤ (x + 1) * (x + 1) := by omega
          have E2 := Aside0.mk e
          clear e
          by_cases c : a * 65536 - x * x > x
          · have E := Aside0.mk (show sqrtR a = (x + 1, 0) by rw [E0.out, if_pos c])
            have c2 : a * 65536 - x * x > (x + 1) * (x + 1) - a * 65536 := by have := E2.out; omega
            go_wp2
            go_ret2
            exact ⟨by rw [E.out]; rfl, by repeat (first | exact Drawn0.refl _ | apply Drawn0.step)⟩
          · have E := Aside0.mk (show sqrtR a = (x, 0) by rw [E0.out, if_neg c])
            have c2 : ¬ a * 65536 - x * x > (x + 1) * (x + 1) - a * 65536 := by have := E2.out; omega
            go_wp2
            go_ret2
            exact ⟨by rw [E.out]; rfl, by repeat (first | exact Drawn0.refl _ | apply Drawn0.step)⟩
end Go.Proofs.YtmbnlklinmmkdaaDoor.Ref
