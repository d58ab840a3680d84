/- Matrices of small whole numbers: what they lead to, one behind the other, and back, in plain sums. -/
import Derived.Test.YtkggogbgnphmpaaSem2
namespace Go.Proofs.Ytkggogbgnphmpaa.Sem

theorem bm {a b : Int} (A B : Int) (hA : 0 ≤ A) (hB : 0 ≤ B) (ha : -A ≤ a ∧ a ≤ A) (hb : -B ≤ b ∧ b ≤ B) : -(A * B) ≤ a * b ∧ a * b ≤ A * B := by
  have h : (a * b).natAbs ≤ A.natAbs * B.natAbs := by rw [Int.natAbs_mul]; exact Nat.mul_le_mul (by omega) (by omega)
  have h2 : ((A.natAbs * B.natAbs : Nat) : Int) = A * B := by
    rw [Int.natCast_mul, Int.natAbs_of_nonneg hA, Int.natAbs_of_nonneg hB]
  rw [← h2]; omega
theorem fitW {t : Int} (h : t.natAbs ≤ 32767) : fitB (t * 65536) = true := fitB_true.2 (by omega)

theorem line_whole {p x q y r : Int} (hp : -27 ≤ p ∧ p ≤ 27) (hx : -200 ≤ x ∧ x ≤ 200) (hq : -27 ≤ q ∧ q ≤ 27) (hy : -200 ≤ y ∧ y ≤ 200) (hr : -27 ≤ r ∧ r ≤ 27) :
    twoS 0 (p * 65536) (x * 65536) (q * 65536) (y * 65536) [r * 65536] = ((p * x + q * y + r) * 65536, 0) := by
  have b1 := bm 27 200 (by decide) (by decide) hp hx
  have b2 := bm 27 200 (by decide) (by decide) hq hy
  rw [two_ok _ (mul_whole p x (fitW (by omega)) (fitW (by omega)) (fitW (by omega))) (mul_whole q y (fitW (by omega)) (fitW (by omega)) (fitW (by omega))),
    sum_three (fitW (by omega)) (fitW (by omega)) (by rw [← Int.add_mul]; exact fitW (by omega)) (fitW (by omega)) (by rw [← Int.add_mul, ← Int.add_mul]; exact fitW (by omega))]
  rw [← Int.add_mul, ← Int.add_mul]

theorem line_wholeD {p x q y : Int} (hp : -27 ≤ p ∧ p ≤ 27) (hx : -200 ≤ x ∧ x ≤ 200) (hq : -27 ≤ q ∧ q ≤ 27) (hy : -200 ≤ y ∧ y ≤ 200) :
    twoS 0 (p * 65536) (x * 65536) (q * 65536) (y * 65536) [] = ((p * x + q * y) * 65536, 0) := by
  have b1 := bm 27 200 (by decide) (by decide) hp hx
  have b2 := bm 27 200 (by decide) (by decide) hq hy
  rw [two_ok _ (mul_whole p x (fitW (by omega)) (fitW (by omega)) (fitW (by omega))) (mul_whole q y (fitW (by omega)) (fitW (by omega)) (fitW (by omega))),
    sum_two (fitW (by omega)) (fitW (by omega)) (by rw [← Int.add_mul]; exact fitW (by omega))]
  rw [← Int.add_mul]

theorem apply_whole {m0 m1 m2 m3 m4 m5 x y : Int} (h0 : -27 ≤ m0 ∧ m0 ≤ 27) (h1 : -27 ≤ m1 ∧ m1 ≤ 27) (h2 : -27 ≤ m2 ∧ m2 ≤ 27) (h3 : -27 ≤ m3 ∧ m3 ≤ 27) (h4 : -27 ≤ m4 ∧ m4 ≤ 27) (h5 : -27 ≤ m5 ∧ m5 ≤ 27) (hx : -200 ≤ x ∧ x ≤ 200) (hy : -200 ≤ y ∧ y ≤ 200) :
    applyA (m0 * 65536) (m1 * 65536) (m2 * 65536) (m3 * 65536) (m4 * 65536) (m5 * 65536) (x * 65536) (y * 65536) = ((m0 * x + m2 * y + m4) * 65536, (m1 * x + m3 * y + m5) * 65536, 0) :=
  apply_ok (line_whole h0 hx h2 hy h4) (line_whole h1 hx h3 hy h5)
theorem delta_whole {m0 m1 m2 m3 x y : Int} (h0 : -27 ≤ m0 ∧ m0 ≤ 27) (h1 : -27 ≤ m1 ∧ m1 ≤ 27) (h2 : -27 ≤ m2 ∧ m2 ≤ 27) (h3 : -27 ≤ m3 ∧ m3 ≤ 27) (hx : -200 ≤ x ∧ x ≤ 200) (hy : -200 ≤ y ∧ y ≤ 200) :
    deltaA (m0 * 65536) (m1 * 65536) (m2 * 65536) (m3 * 65536) (x * 65536) (y * 65536) = ((m0 * x + m2 * y) * 65536, (m1 * x + m3 * y) * 65536, 0) :=
  delta_ok (line_wholeD h0 hx h2 hy) (line_wholeD h1 hx h3 hy)

theorem concat_whole {a0 a1 a2 a3 a4 a5 b0 b1 b2 b3 b4 b5 : Int} (ha0 : -3 ≤ a0 ∧ a0 ≤ 3) (ha1 : -3 ≤ a1 ∧ a1 ≤ 3) (ha2 : -3 ≤ a2 ∧ a2 ≤ 3) (ha3 : -3 ≤ a3 ∧ a3 ≤ 3) (ha4 : -3 ≤ a4 ∧ a4 ≤ 3) (ha5 : -3 ≤ a5 ∧ a5 ≤ 3)
    (hb0 : -3 ≤ b0 ∧ b0 ≤ 3) (hb1 : -3 ≤ b1 ∧ b1 ≤ 3) (hb2 : -3 ≤ b2 ∧ b2 ≤ 3) (hb3 : -3 ≤ b3 ∧ b3 ≤ 3) (hb4 : -3 ≤ b4 ∧ b4 ≤ 3) (hb5 : -3 ≤ b5 ∧ b5 ≤ 3) :
    concatR deltaA applyA (a0 * 65536) (a1 * 65536) (a2 * 65536) (a3 * 65536) (a4 * 65536) (a5 * 65536) (b0 * 65536) (b1 * 65536) (b2 * 65536) (b3 * 65536) (b4 * 65536) (b5 * 65536)
      = ⟨(b0 * a0 + b2 * a1) * 65536, (b1 * a0 + b3 * a1) * 65536, (b0 * a2 + b2 * a3) * 65536, (b1 * a2 + b3 * a3) * 65536, (b0 * a4 + b2 * a5 + b4) * 65536, (b1 * a4 + b3 * a5 + b5) * 65536, 0⟩ := by
  unfold concatR
  rw [delta_whole (by omega) (by omega) (by omega) (by omega) (by omega) (by omega), delta_whole (by omega) (by omega) (by omega) (by omega) (by omega) (by omega),
    apply_whole (by omega) (by omega) (by omega) (by omega) (by omega) (by omega) (by omega) (by omega)]
  simp

set_option maxHeartbeats 1600000 in
/-- One behind the other. -/
theorem both {a0 a1 a2 a3 a4 a5 b0 b1 b2 b3 b4 b5 x y : Int} (ha0 : -3 ≤ a0 ∧ a0 ≤ 3) (ha1 : -3 ≤ a1 ∧ a1 ≤ 3) (ha2 : -3 ≤ a2 ∧ a2 ≤ 3) (ha3 : -3 ≤ a3 ∧ a3 ≤ 3) (ha4 : -3 ≤ a4 ∧ a4 ≤ 3) (ha5 : -3 ≤ a5 ∧ a5 ≤ 3)
    (hb0 : -3 ≤ b0 ∧ b0 ≤ 3) (hb1 : -3 ≤ b1 ∧ b1 ≤ 3) (hb2 : -3 ≤ b2 ∧ b2 ≤ 3) (hb3 : -3 ≤ b3 ∧ b3 ≤ 3) (hb4 : -3 ≤ b4 ∧ b4 ≤ 3) (hb5 : -3 ≤ b5 ∧ b5 ≤ 3) (hx : -19 ≤ x ∧ x ≤ 19) (hy : -19 ≤ y ∧ y ≤ 19) :
    ∃ q0 q1 r0 r1 : Int, applyA (a0 * 65536) (a1 * 65536) (a2 * 65536) (a3 * 65536) (a4 * 65536) (a5 * 65536) (x * 65536) (y * 65536) = (q0, q1, 0) ∧
      applyA (b0 * 65536) (b1 * 65536) (b2 * 65536) (b3 * 65536) (b4 * 65536) (b5 * 65536) q0 q1 = (r0, r1, 0) ∧
      applyA ((b0 * a0 + b2 * a1) * 65536) ((b1 * a0 + b3 * a1) * 65536) ((b0 * a2 + b2 * a3) * 65536) ((b1 * a2 + b3 * a3) * 65536) ((b0 * a4 + b2 * a5 + b4) * 65536) ((b1 * a4 + b3 * a5 + b5) * 65536) (x * 65536) (y * 65536) = (r0, r1, 0) := by
  refine ⟨_, _, _, _, apply_whole (by omega) (by omega) (by omega) (by omega) (by omega) (by omega) (by omega) (by omega), apply_whole (by omega) (by omega) (by omega) (by omega) (by omega) (by omega) ?_ ?_, ?_⟩
  · have := bm 3 19 (by decide) (by decide) ha0 hx; have := bm 3 19 (by decide) (by decide) ha2 hy; omega
  · have := bm 3 19 (by decide) (by decide) ha1 hx; have := bm 3 19 (by decide) (by decide) ha3 hy; omega
  · have k0 := bm 3 3 (by decide) (by decide) hb0 ha0
    have k1 := bm 3 3 (by decide) (by decide) hb2 ha1
    have k2 := bm 3 3 (by decide) (by decide) hb1 ha0
    have k3 := bm 3 3 (by decide) (by decide) hb3 ha1
    have k4 := bm 3 3 (by decide) (by decide) hb0 ha2
    have k5 := bm 3 3 (by decide) (by decide) hb2 ha3
    have k6 := bm 3 3 (by decide) (by decide) hb1 ha2
    have k7 := bm 3 3 (by decide) (by decide) hb3 ha3
    have k8 := bm 3 3 (by decide) (by decide) hb0 ha4
    have k9 := bm 3 3 (by decide) (by decide) hb2 ha5
    have l0 := bm 3 3 (by decide) (by decide) hb1 ha4
    have l1 := bm 3 3 (by decide) (by decide) hb3 ha5
    rw [apply_whole (by omega) (by omega) (by omega) (by omega) (by omega) (by omega) (by omega) (by omega)]
    have e1 : (b0 * a0 + b2 * a1) * x + (b0 * a2 + b2 * a3) * y + (b0 * a4 + b2 * a5 + b4) = b0 * (a0 * x + a2 * y + a4) + b2 * (a1 * x + a3 * y + a5) + b4 := by grind
    have e2 : (b1 * a0 + b3 * a1) * x + (b1 * a2 + b3 * a3) * y + (b1 * a4 + b3 * a5 + b5) = b1 * (a0 * x + a2 * y + a4) + b3 * (a1 * x + a3 * y + a5) + b5 := by grind
    rw [e1, e2]

theorem div_one (x : Int) (h : fitB x = true) : divR x 65536 = (x, 0) := by
  rw [divR_fit h (by decide) (by decide), rnd_one]; unfold keepR; rw [if_pos h]
theorem sub_ok {a b : Int} (ha : fitB a = true) (hb : fitB b = true) (h : fitB (a - b) = true) : subR a b = (a - b, 0) := by
  rw [subR_fit ha hb]; unfold keepR; rw [if_pos h]

/-- Back again: a matrix of the determinant 1. -/
theorem back {k e f x y : Int} (hk : -8 ≤ k ∧ k ≤ 8) (he : -3 ≤ e ∧ e ≤ 3) (hf : -3 ≤ f ∧ f ≤ 3) (hx : -19 ≤ x ∧ x ≤ 19) (hy : -19 ≤ y ∧ y ≤ 19) :
    ∃ v0 v1 v2 v3 v4 v5 t0 t1 : Int, invertR 65536 (k * 65536) 0 65536 (e * 65536) (f * 65536) = ⟨v0, v1, v2, v3, v4, v5, 0⟩ ∧
      applyA 65536 (k * 65536) 0 65536 (e * 65536) (f * 65536) (x * 65536) (y * 65536) = (t0, t1, 0) ∧
      applyA v0 v1 v2 v3 v4 v5 t0 t1 = (x * 65536, y * 65536, 0) := by
  have kx := bm 8 19 (by decide) (by decide) hk hx
  have ke := bm 8 3 (by decide) (by decide) hk he
  have one : (1 : Int) * 65536 = 65536 := rfl
  have nul : (0 : Int) * 65536 = 0 := rfl
  have hT := apply_whole (m0 := 1) (m1 := k) (m2 := 0) (m3 := 1) (m4 := e) (m5 := f) (x := x) (y := y) (by omega) (by omega) (by omega) (by omega) (by omega) (by omega) (by omega) (by omega)
  have hV := apply_whole (m0 := 1) (m1 := -k) (m2 := 0) (m3 := 1) (m4 := -e) (m5 := k * e - f) (x := 1 * x + 0 * y + e) (y := k * x + 1 * y + f) (by omega) (by omega) (by omega) (by omega) (by omega) (by omega) (by omega) (by omega)
  rw [one, nul] at hT hV
  refine ⟨65536, -k * 65536, 0, 65536, -e * 65536, (k * e - f) * 65536, _, _, ?_, hT, hV.trans ?_⟩
  · have fo : fitB 65536 = true := by decide
    have fk : fitB (k * 65536) = true := fitW (by omega)
    have fe : fitB (e * 65536) = true := fitW (by omega)
    have ff : fitB (f * 65536) = true := fitW (by omega)
    have d1 : mulR 65536 65536 = (65536, 0) := mul_left _ fo
    have d2 : mulR (k * 65536) 0 = (0, 0) := zero_right _ fk
    have d3 : subR 65536 0 = (65536, 0) := by decide
    have hdet : detS 0 65536 (k * 65536) 0 65536 = (65536, 0) := by
      unfold detS subS mulS; simp only [tk_zero, d1, d2, d3]
    have q1 : divR 65536 65536 = (65536, 0) := div_one _ fo
    have q2 : subR 0 (k * 65536) = (-k * 65536, 0) := by
      rw [sub_ok fit_zero fk (by rw [show (0 : Int) - k * 65536 = -k * 65536 by omega]; exact fitW (by omega))]; congr 1; omega
    have q3 : divR (-k * 65536) 65536 = (-k * 65536, 0) := div_one _ (fitW (by omega))
    have q4 : subR 0 0 = (0, 0) := by decide
    have q5 : divR 0 65536 = (0, 0) := div_one _ fit_zero
    have q6 : mulR 0 (f * 65536) = (0, 0) := zero_left _ ff
    have q7 : mulR 65536 (e * 65536) = (e * 65536, 0) := mul_left _ fe
    have q8 : subR 0 (e * 65536) = (-e * 65536, 0) := by
      rw [sub_ok fit_zero fe (by rw [show (0 : Int) - e * 65536 = -e * 65536 by omega]; exact fitW (by omega))]; congr 1; omega
    have q9 : divR (-e * 65536) 65536 = (-e * 65536, 0) := div_one _ (fitW (by omega))
    have r1 : mulR (k * 65536) (e * 65536) = (k * e * 65536, 0) := mul_whole _ _ fk fe (fitW (by omega))
    have r2 : mulR 65536 (f * 65536) = (f * 65536, 0) := mul_left _ ff
    have r3 : subR (k * e * 65536) (f * 65536) = ((k * e - f) * 65536, 0) := by
      rw [sub_ok (fitW (by omega)) ff (by rw [← Int.sub_mul]; exact fitW (by omega)), ← Int.sub_mul]
    have r4 : divR ((k * e - f) * 65536) 65536 = ((k * e - f) * 65536, 0) := div_one _ (fitW (by omega))
    unfold invertR
    rw [hdet, if_pos rfl, if_neg (by decide)]
    unfold quots fin6 divS subS mulS
    simp only [tk_zero, q1, q2, q3, q4, q5, q6, q7, q8, q9, r1, r2, r3, r4, if_pos]
  · have e1 : 1 * (1 * x + 0 * y + e) + 0 * (k * x + 1 * y + f) + -e = x := by omega
    have e2 : -k * (1 * x + 0 * y + e) + 1 * (k * x + 1 * y + f) + (k * e - f) = y := by grind
    rw [e1, e2]

theorem scale_whole {k : Int} (hk : -8 ≤ k ∧ k ≤ 8) : scaleA 65536 (k * 65536) 0 65536 = (65536, 0) := by
  have fo : fitB 65536 = true := by decide
  have fk : fitB (k * 65536) = true := fitW (by omega)
  have d1 : mulR 65536 65536 = (65536, 0) := mul_left _ fo
  have d2 : mulR (k * 65536) 0 = (0, 0) := zero_right _ fk
  have d3 : subR 65536 0 = (65536, 0) := by decide
  have hdet : detS 0 65536 (k * 65536) 0 65536 = (65536, 0) := by
    unfold detS subS mulS; simp only [tk_zero, d1, d2, d3]
  have hr : sqrtR 65536 = (65536, 0) := by
    rw [sqrtR_of fo (by decide) (s := 65536) ⟨by decide, by decide, by decide⟩]; rfl
  unfold scaleA
  rw [hdet]
  dsimp only
  rw [if_neg (show ¬ (65536 : Int) < 0 by decide)]
  dsimp only
  rw [show max (65536 : Int) 0 = 65536 from rfl, hr, tk_zero]
  rfl

end Go.Proofs.Ytkggogbgnphmpaa.Sem
