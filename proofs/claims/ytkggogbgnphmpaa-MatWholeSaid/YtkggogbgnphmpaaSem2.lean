/- What matrices of whole numbers, moves, stretches and the matrix Identity come to, in plain integers: no Go in this text. -/
import Derived.Test.YtkggogbgnphmpaaSem
namespace Go.Proofs.Ytkggogbgnphmpaa.Sem

theorem rnd_one (a : Int) : rnd (a * 65536) 65536 = a := by
  have e : ∀ x : Int, 0 ≤ x → rq (x * 65536) 65536 = x := by
    intro x _; unfold rq; rw [if_neg (by omega)]; omega
  unfold rnd
  rw [show (((65536 : Int).natAbs : Nat) : Int) = 65536 from rfl]
  by_cases n : a < 0
  · have hs : (decide (a * 65536 < 0) != decide ((65536 : Int) < 0)) = true := by
      rw [decide_eq_true (by omega : a * 65536 < 0)]; rfl
    rw [if_pos hs, show (((a * 65536).natAbs : Nat) : Int) = (-a) * 65536 by omega, e _ (by omega)]; omega
  · have hs : ¬ (decide (a * 65536 < 0) != decide ((65536 : Int) < 0)) = true := by
      rw [decide_eq_false (by omega : ¬ a * 65536 < 0)]; simp
    rw [if_neg hs, show (((a * 65536).natAbs : Nat) : Int) = a * 65536 by omega, e _ (by omega)]

theorem rnd_zero : rnd 0 65536 = 0 := by decide

theorem mul_left (x : Int) (h : fitB x = true) : mulR 65536 x = (x, 0) := by
  rw [mulR_fit (by decide) h, Int.mul_comm, rnd_one]; unfold keepR; rw [if_pos h]
theorem mul_right (x : Int) (h : fitB x = true) : mulR x 65536 = (x, 0) := by
  rw [mulR_fit h (by decide), rnd_one]; unfold keepR; rw [if_pos h]
theorem zero_left (x : Int) (h : fitB x = true) : mulR 0 x = (0, 0) := by
  rw [mulR_fit fit_zero h, Int.zero_mul, rnd_zero]; rfl
theorem zero_right (x : Int) (h : fitB x = true) : mulR x 0 = (0, 0) := by
  rw [mulR_fit h fit_zero, Int.mul_zero, rnd_zero]; rfl
/-- A raw number times a whole one. -/
theorem mul_raw (x p : Int) (hx : fitB x = true) (hp : fitB (p * 65536) = true) (h : fitB (p * x) = true) : mulR x (p * 65536) = (p * x, 0) := by
  rw [mulR_fit hx hp, show x * (p * 65536) = p * x * 65536 by grind, rnd_one]; unfold keepR; rw [if_pos h]
/-- Whole numbers. -/
theorem mul_whole (a b : Int) (ha : fitB (a * 65536) = true) (hb : fitB (b * 65536) = true) (h : fitB (a * b * 65536) = true) : mulR (a * 65536) (b * 65536) = (a * b * 65536, 0) := by
  rw [mulR_fit ha hb, show a * 65536 * (b * 65536) = a * b * 65536 * 65536 by grind, rnd_one]; unfold keepR; rw [if_pos h]

theorem two_ok {a x c y P Q : Int} (l : List Int) (h1 : mulR a x = (P, 0)) (h2 : mulR c y = (Q, 0)) : twoS 0 a x c y l = sumR 0 (P :: Q :: l) := by
  unfold twoS mulS; rw [h1, h2]; simp only [tk_zero]
theorem add_ok {a b : Int} (ha : fitB a = true) (hb : fitB b = true) (h : fitB (a + b) = true) : addR a b = (a + b, 0) := by
  rw [addR_fit ha hb]; unfold keepR; rw [if_pos h]
theorem sum_two {P Q : Int} (hP : fitB P = true) (hQ : fitB Q = true) (h : fitB (P + Q) = true) : sumR 0 [P, Q] = (P + Q, 0) := by
  unfold sumR sumR sumR; rw [addR_zero P hP]; simp only [if_true]; rw [add_ok hP hQ h]; simp
theorem sum_three {P Q T : Int} (hP : fitB P = true) (hQ : fitB Q = true) (h : fitB (P + Q) = true) (hT : fitB T = true) (h2 : fitB (P + Q + T) = true) : sumR 0 [P, Q, T] = (P + Q + T, 0) := by
  unfold sumR sumR sumR sumR; rw [addR_zero P hP]; simp only [if_true]; rw [add_ok hP hQ h]; simp only [if_true]; rw [add_ok h hT h2]; simp

theorem apply_ok {m0 m1 m2 m3 m4 m5 x y A B : Int} (h1 : twoS 0 m0 x m2 y [m4] = (A, 0)) (h2 : twoS 0 m1 x m3 y [m5] = (B, 0)) : applyA m0 m1 m2 m3 m4 m5 x y = (A, B, 0) := by
  unfold applyA; rw [h1, h2]; rfl
theorem delta_ok {m0 m1 m2 m3 x y A B : Int} (h1 : twoS 0 m0 x m2 y [] = (A, 0)) (h2 : twoS 0 m1 x m3 y [] = (B, 0)) : deltaA m0 m1 m2 m3 x y = (A, B, 0) := by
  unfold deltaA; rw [h1, h2]; rfl

theorem delta_id {x y : Int} (hx : fitB x = true) (hy : fitB y = true) : deltaA 65536 0 0 65536 x y = (x, y, 0) := by
  refine delta_ok ?_ ?_
  · rw [two_ok [] (mul_left x hx) (zero_left y hy), sum_two hx fit_zero (by rw [Int.add_zero]; exact hx), Int.add_zero]
  · rw [two_ok [] (zero_left x hx) (mul_left y hy), sum_two fit_zero hy (by rw [Int.zero_add]; exact hy), Int.zero_add]

theorem apply_move {x y X Y : Int} (hx : fitB x = true) (hy : fitB y = true) (hX : fitB X = true) (hY : fitB Y = true) (h1 : fitB (X + x) = true) (h2 : fitB (Y + y) = true) :
    applyA 65536 0 0 65536 x y X Y = (X + x, Y + y, 0) := by
  refine apply_ok ?_ ?_
  · rw [two_ok [x] (mul_left X hX) (zero_left Y hY), sum_three hX fit_zero (by rw [Int.add_zero]; exact hX) hx (by rw [Int.add_zero]; exact h1), Int.add_zero]
  · rw [two_ok [y] (zero_left X hX) (mul_left Y hY), sum_three fit_zero hY (by rw [Int.zero_add]; exact hY) hy (by rw [Int.zero_add]; exact h2), Int.zero_add]

theorem apply_stretch {x y p q : Int} (hx : fitB x = true) (hy : fitB y = true) (hp : fitB (p * 65536) = true) (hq : fitB (q * 65536) = true) (h1 : fitB (p * x) = true) (h2 : fitB (q * y) = true) :
    applyA x 0 0 y 0 0 (p * 65536) (q * 65536) = (p * x, q * y, 0) := by
  refine apply_ok ?_ ?_
  · rw [two_ok [0] (mul_raw x p hx hp h1) (zero_left _ hq), sum_three h1 fit_zero (by rw [Int.add_zero]; exact h1) fit_zero (by rw [Int.add_zero, Int.add_zero]; exact h1), Int.add_zero, Int.add_zero]
  · rw [two_ok [0] (zero_left _ hp) (mul_raw y q hy hq h2), sum_three fit_zero h2 (by rw [Int.zero_add]; exact h2) fit_zero (by rw [Int.zero_add, Int.add_zero]; exact h2), Int.zero_add, Int.add_zero]

/-- A matrix, and then Identity. -/
theorem concat_id {a0 a1 a2 a3 a4 a5 : Int} (h0 : fitB a0 = true) (h1 : fitB a1 = true) (h2 : fitB a2 = true) (h3 : fitB a3 = true) (h4 : fitB a4 = true) (h5 : fitB a5 = true) :
    concatR deltaA applyA a0 a1 a2 a3 a4 a5 65536 0 0 65536 0 0 = ⟨a0, a1, a2, a3, a4, a5, 0⟩ := by
  unfold concatR
  rw [delta_id h0 h1, delta_id h2 h3, apply_move fit_zero fit_zero h4 h5 (by rw [Int.add_zero]; exact h4) (by rw [Int.add_zero]; exact h5)]
  simp
/-- Identity, and then a matrix. -/
theorem id_concat {a0 a1 a2 a3 a4 a5 : Int} (h0 : fitB a0 = true) (h1 : fitB a1 = true) (h2 : fitB a2 = true) (h3 : fitB a3 = true) (h4 : fitB a4 = true) (h5 : fitB a5 = true) :
    concatR deltaA applyA 65536 0 0 65536 0 0 a0 a1 a2 a3 a4 a5 = ⟨a0, a1, a2, a3, a4, a5, 0⟩ := by
  have e1 : deltaA a0 a1 a2 a3 65536 0 = (a0, a1, 0) := by
    refine delta_ok ?_ ?_
    · rw [two_ok [] (mul_right a0 h0) (zero_right a2 h2), sum_two h0 fit_zero (by rw [Int.add_zero]; exact h0), Int.add_zero]
    · rw [two_ok [] (mul_right a1 h1) (zero_right a3 h3), sum_two h1 fit_zero (by rw [Int.add_zero]; exact h1), Int.add_zero]
  have e2 : deltaA a0 a1 a2 a3 0 65536 = (a2, a3, 0) := by
    refine delta_ok ?_ ?_
    · rw [two_ok [] (zero_right a0 h0) (mul_right a2 h2), sum_two fit_zero h2 (by rw [Int.zero_add]; exact h2), Int.zero_add]
    · rw [two_ok [] (zero_right a1 h1) (mul_right a3 h3), sum_two fit_zero h3 (by rw [Int.zero_add]; exact h3), Int.zero_add]
  have e3 : applyA a0 a1 a2 a3 a4 a5 0 0 = (a4, a5, 0) := by
    refine apply_ok ?_ ?_
    · rw [two_ok [a4] (zero_right a0 h0) (zero_right a2 h2), sum_three fit_zero fit_zero (by decide) h4 (by simpa using h4)]; simp
    · rw [two_ok [a5] (zero_right a1 h1) (zero_right a3 h3), sum_three fit_zero fit_zero (by decide) h5 (by simpa using h5)]; simp
  unfold concatR
  rw [e1, e2, e3]
  simp
end Go.Proofs.Ytkggogbgnphmpaa.Sem
