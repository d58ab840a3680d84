/- For all pairs of numbers the product and the quotient are the nearest numbers to the exact values, a tie of a product away from 0. No condition. -/
import Derived.Test.YtonchamkagadbaaPFixNearx2
namespace Go.Proofs.Ytonchamkagadbaa.Pure
open Go.RowKit Go.Proofs.Ytonchamkagadbaa.PFixNear Go.Proofs.YtonchamkagadbaaW.PrintWords Go.Proofs.YtonchamkagadbaaW.PrintLast

theorem w64 {x : Int} (h0 : -9223372036854775808 ≤ x) (h1 : x ≤ 9223372036854775807) : wrap64 x = x := by unfold wrap64; omega

def fitB (a : Int) : Bool := decide (-2147483648 ≤ a ∧ a ≤ 2147483647)
theorem fitB_true {a : Int} : fitB a = true ↔ -2147483648 ≤ a ∧ a ≤ 2147483647 := by unfold fitB; exact decide_eq_true_iff
theorem fitB_false {a : Int} : fitB a = false ↔ ¬ (-2147483648 ≤ a ∧ a ≤ 2147483647) := by unfold fitB; exact decide_eq_false_iff_not

theorem fits_eq (a : Int) : fix_Fits.f a = some (fitB a) := by
  unfold fix_Fits.f fitB
  by_cases h : a ≥ -2147483648
  · rw [if_pos h]; congr 1; apply decide_eq_decide.2; omega
  · rw [if_neg h]; congr 1; symm; apply decide_eq_false; omega

theorem within_eq (a : Int) : fix_within.f a = some (if fitB a = true then (a, 0) else (0, 18)) := by
  unfold fix_within.f; rw [fits_eq]; simp only [Option.bind_some]; split <;> rfl

theorem all_eq (k : Nat) (a b : Int) : fix_all.f (k + 3) [a, b] = some (fitB a && fitB b) := by
  unfold fix_all.f
  have e0 : rd [a, b] 0 = a := rfl
  have e1 : rd [a, b] 1 = b := rfl
  have s1 : wrap64 1 = 1 := w64 (by omega) (by omega)
  have s2 : wrap64 2 = 2 := w64 (by omega) (by omega)
  simp only [fix_all.l0, List.length_cons, List.length_nil]
  simp [fits_eq, s1, s2, e0, e1]
  cases fitB a <;> cases fitB b <;> rfl

/-- The quotient of numbers that are not below 0, rounded half up. -/
def rq (a b : Int) : Int := if b ≤ 2 * (a % b) then a / b + 1 else a / b
/-- The quotient, rounded half away from 0. -/
def rnd (a b : Int) : Int := if (decide (a < 0) != decide (b < 0)) = true then - rq a.natAbs b.natAbs else rq a.natAbs b.natAbs

theorem rq_bounds (a b : Int) (ha : 0 ≤ a) (hb : 0 < b) : 0 ≤ rq a b ∧ rq a b ≤ a + 1 := by
  have h1 := Int.ediv_nonneg ha (Int.le_of_lt hb)
  have h2 : a / b ≤ a := Int.ediv_le_self _ ha
  unfold rq; split <;> omega

theorem over_pos (k : Nat) (a b : Int) (hb : 0 < b) (hb2 : b ≤ 2147483648) (ha : -4611686018427387904 ≤ a) (ha2 : a ≤ 4611686018427387904) :
    fix_over.j0 (k + 1) a b = some (rnd a b) := by
  have hb' : ((b.natAbs : Nat) : Int) = b := by omega
  have hbn : ¬ b < 0 := by omega
  simp only [fix_over.j0]
  rw [if_neg (by omega)]
  unfold rnd
  rw [hb']
  by_cases hn : a < 0
  · have ha' : ((a.natAbs : Nat) : Int) = -a := by omega
    have hs : (decide (a < 0) != decide (b < 0)) = true := by simp [hn, hbn]
    rw [ha', if_pos hs]
    have ed : Int.tdiv a b = -((-a) / b) := by
      rw [← Int.tdiv_eq_ediv_of_nonneg (by omega : 0 ≤ -a), Int.neg_tdiv]; omega
    have em : Int.tmod a b = -((-a) % b) := by
      rw [← Int.tmod_eq_emod_of_nonneg (by omega : 0 ≤ -a), Int.neg_tmod]; omega
    rw [ed, em]
    have h1 := Int.emod_nonneg (-a) (by omega : b ≠ 0)
    have h2 := Int.emod_lt_of_pos (-a) hb
    have h3 := Int.ediv_nonneg (by omega : 0 ≤ -a) (Int.le_of_lt hb)
    have h4 : (-a) / b ≤ -a := Int.ediv_le_self _ (by omega)
    unfold rq
    generalize (-a) % b = r at *
    generalize (-a) / b = q at *
    rw [w64 (x := 2 * -r) (by omega) (by omega), if_neg (by omega : ¬ 2 * -r ≥ b), w64 (x := -2 * -r) (by omega) (by omega), w64 (x := -q) (by omega) (by omega), w64 (x := -q - 1) (by omega) (by omega)]
    by_cases hr : b ≤ 2 * r
    · rw [if_pos (by omega : -2 * -r ≥ b), if_pos hr]; congr 1; omega
    · rw [if_neg (by omega : ¬ -2 * -r ≥ b), if_neg hr]
  · have ha' : ((a.natAbs : Nat) : Int) = a := by omega
    have hs : ¬ (decide (a < 0) != decide (b < 0)) = true := by simp [hn, hbn]
    rw [ha', if_neg hs]
    have ed : Int.tdiv a b = a / b := Int.tdiv_eq_ediv_of_nonneg (by omega)
    have em : Int.tmod a b = a % b := Int.tmod_eq_emod_of_nonneg (by omega)
    rw [ed, em]
    have h1 := Int.emod_nonneg a (by omega : b ≠ 0)
    have h2 := Int.emod_lt_of_pos a hb
    have h3 := Int.ediv_nonneg (by omega : 0 ≤ a) (Int.le_of_lt hb)
    have h4 : a / b ≤ a := Int.ediv_le_self _ (by omega)
    unfold rq
    generalize a % b = r at *
    generalize a / b = q at *
    rw [w64 (x := 2 * r) (by omega) (by omega), w64 (x := -2 * r) (by omega) (by omega), w64 (x := q) (by omega) (by omega), w64 (x := q + 1) (by omega) (by omega)]
    by_cases hr : b ≤ 2 * r
    · rw [if_pos (by omega : 2 * r ≥ b), if_pos hr]
    · rw [if_neg (by omega : ¬ 2 * r ≥ b), if_neg (by omega : ¬ -2 * r ≥ b), if_neg hr]

theorem over_eq (k : Nat) (a b : Int) (hb : b ≠ 0) (hb1 : -2147483648 ≤ b) (hb2 : b ≤ 2147483647) (ha : -4611686018427387904 ≤ a) (ha2 : a ≤ 4611686018427387904) :
    fix_over.f (k + 1) a b = some (rnd a b) := by
  unfold fix_over.f
  by_cases hn : b < 0
  · rw [if_pos hn, w64 (by omega) (by omega), w64 (by omega) (by omega), over_pos k (-a) (-b) (by omega) (by omega) (by omega) (by omega)]
    congr 1
    unfold rnd
    rw [Int.natAbs_neg, Int.natAbs_neg]
    by_cases h0 : a = 0
    · subst h0
      have : rq (Int.natAbs 0) b.natAbs = 0 := by
        unfold rq; rw [show ((Int.natAbs 0 : Nat) : Int) = 0 from rfl, Int.zero_emod, Int.zero_ediv, if_neg (by omega)]
      rw [this]; simp
    · have e1 : decide (-a < 0) = !decide (a < 0) := by
        rw [← decide_not]; apply decide_eq_decide.2; omega
      have e2 : decide (-b < 0) = !decide (b < 0) := by
        rw [← decide_not]; apply decide_eq_decide.2; omega
      rw [e1, e2]; cases decide (a < 0) <;> cases decide (b < 0) <;> rfl
  · rw [if_neg hn, over_pos k a b (by omega) (by omega) ha ha2]

theorem prod_bounds {a b : Int} (ha : -2147483648 ≤ a) (ha2 : a ≤ 2147483647) (hb : -2147483648 ≤ b) (hb2 : b ≤ 2147483647) :
    -4611686018427387904 ≤ a * b ∧ a * b ≤ 4611686018427387904 := by
  have h : (a * b).natAbs ≤ 2147483648 * 2147483648 := by
    rw [Int.natAbs_mul]; exact Nat.mul_le_mul (by omega) (by omega)
  omega

/-- What a product comes to. -/
def mulR (a b : Int) : Int × Int := if (fitB a && fitB b) = true then (if fitB (rnd (a * b) 65536) = true then (rnd (a * b) 65536, 0) else (0, 18)) else (0, 11)
/-- What a quotient comes to. -/
def divR (a b : Int) : Int × Int := if (fitB a && fitB b) = true then (if b = 0 then (0, 18) else if fitB (rnd (a * 65536) b) = true then (rnd (a * 65536) b, 0) else (0, 18)) else (0, 11)
/-- What a sum comes to. -/
def addR (a b : Int) : Int × Int := if (fitB a && fitB b) = true then (if fitB (a + b) = true then (a + b, 0) else (0, 18)) else (0, 11)
/-- What a difference comes to. -/
def subR (a b : Int) : Int × Int := if (fitB a && fitB b) = true then (if fitB (a - b) = true then (a - b, 0) else (0, 18)) else (0, 11)

theorem mul_eq (k : Nat) (a b : Int) : fix_Mul.f (k + 3) a b = some (mulR a b) := by
  unfold fix_Mul.f mulR
  rw [all_eq]; simp only [Option.bind_some]
  by_cases h : (fitB a && fitB b) = true
  · rw [if_pos h, if_pos h]
    rw [Bool.and_eq_true, fitB_true, fitB_true] at h
    have hp := prod_bounds h.1.1 h.1.2 h.2.1 h.2.2
    rw [w64 (by omega) (by omega), over_eq (k + 2) _ _ (by omega) (by omega) (by omega) hp.1 hp.2]
    simp only [Option.bind_some, within_eq]
  · rw [if_neg h, if_neg h]

theorem answers_eq (k : Nat) : mezzotintlaw01_answers.f (k + 3) = some true := by
  unfold mezzotintlaw01_answers.f
  rw [mul_eq, show mulR 32768 196608 = (98304, 0) by decide]; rfl

theorem div_eq (k : Nat) (a b : Int) : fix_Div.f (k + 3) a b = some (divR a b) := by
  unfold fix_Div.f divR
  rw [all_eq]; simp only [Option.bind_some]
  by_cases h : (fitB a && fitB b) = true
  · rw [if_pos h, if_pos h]
    rw [Bool.and_eq_true, fitB_true, fitB_true] at h
    by_cases hb : b = 0
    · rw [if_pos hb, if_pos hb]
    · rw [if_neg hb, if_neg hb, w64 (by omega) (by omega), over_eq (k + 2) _ _ hb (by omega) (by omega) (by omega) (by omega)]
      simp only [Option.bind_some, within_eq]
  · rw [if_neg h, if_neg h]

theorem rfits_eq (a : Int) : mezzotintref01_Fits.f a = some (fitB a) := by
  unfold mezzotintref01_Fits.f fitB
  by_cases h : a ≥ -2147483648
  · rw [if_pos h]; congr 1; apply decide_eq_decide.2; omega
  · rw [if_neg h]; congr 1; symm; apply decide_eq_false; omega

theorem rq_lit (A : Int) : rq A 65536 = if 32768 ≤ A % 65536 then A / 65536 + 1 else A / 65536 := by
  unfold rq; by_cases h : 32768 ≤ A % 65536
  · rw [if_pos h, if_pos (by omega)]
  · rw [if_neg h, if_neg (by omega)]

theorem near_mul (a b : Int) (ha : fitB a = true) (hb : fitB b = true) (he : (mulR a b).2 = 0) :
    (mulR a b).1 = rnd (a * b) 65536 ∧ fitB (rnd (a * b) 65536) = true := by
  unfold mulR at *
  rw [ha, hb] at *
  simp only [Bool.and_self, if_true] at *
  cases h : fitB (rnd (a * b) 65536)
  · simp [h] at he
  · simp

theorem near_div (a b : Int) (ha : fitB a = true) (hb : fitB b = true) (he : (divR a b).2 = 0) :
    b ≠ 0 ∧ (divR a b).1 = rnd (a * 65536) b := by
  unfold divR at *
  rw [ha, hb] at *
  simp only [Bool.and_self, if_true] at *
  by_cases h0 : b = 0
  · simp [h0] at he
  · rw [if_neg h0] at *
    cases h : fitB (rnd (a * 65536) b)
    · simp [h] at he
    · simp [h0]

theorem j1_eq (k : Nat) (a b : Int) (ha : fitB a = true) (hb : fitB b = true) : mezzotintlaw01_FixNear.j1 (k + 4) a b = some true := by
  simp only [mezzotintlaw01_FixNear.j1, div_eq, Option.bind_some]
  by_cases he : (divR a b).2 = 0
  · rw [if_pos he]
    obtain ⟨h0, h1⟩ := near_div a b ha hb he
    rw [h1]
    rw [fitB_true] at ha hb
    have key : -b.natAbs ≤ 2 * (a * 65536 - rnd (a * 65536) b * b) ∧ 2 * (a * 65536 - rnd (a * 65536) b * b) ≤ b.natAbs ∧
        (rnd (a * 65536) b * b = rnd (a * 65536) b * b) := by
      have hB : 0 < ((b.natAbs : Nat) : Int) := by omega
      have m1 := Int.emod_nonneg ((a * 65536).natAbs : Int) (by omega : ((b.natAbs : Nat) : Int) ≠ 0)
      have m2 := Int.emod_lt_of_pos ((a * 65536).natAbs : Int) hB
      have m3 := Int.mul_ediv_add_emod ((a * 65536).natAbs : Int) ((b.natAbs : Nat) : Int)
      have hq : ∃ m, rq ((a * 65536).natAbs) b.natAbs * b.natAbs = m ∧ -b.natAbs ≤ 2 * ((a * 65536).natAbs - m) ∧ 2 * ((a * 65536).natAbs - m) ≤ b.natAbs := by
        refine ⟨_, rfl, ?_⟩
        unfold rq
        rw [Int.mul_comm] at m3
        by_cases hr : (b.natAbs : Int) ≤ 2 * (((a * 65536).natAbs : Int) % (b.natAbs : Int))
        · rw [if_pos hr, Int.add_mul]; omega
        · rw [if_neg hr]; omega
      obtain ⟨m, hm, h2, h3⟩ := hq
      refine ⟨?_, ?_, rfl⟩
      · unfold rnd
        by_cases na : a * 65536 < 0 <;> by_cases nb : b < 0
        · rw [if_neg (by simp [na, nb])]
          have e : rq ((a * 65536).natAbs) b.natAbs * b = - m := by
            rw [← hm, ← Int.mul_neg]; congr 1; omega
          rw [e]; omega
        · rw [if_pos (by simp [na, nb])]
          have e : -rq ((a * 65536).natAbs) b.natAbs * b = - m := by
            rw [← hm, Int.neg_mul]; congr 2; omega
          rw [e]; omega
        · rw [if_pos (by simp [na, nb])]
          have e : -rq ((a * 65536).natAbs) b.natAbs * b = m := by
            rw [← hm, Int.neg_mul, ← Int.mul_neg]; congr 1; omega
          rw [e]; omega
        · rw [if_neg (by simp [na, nb])]
          have e : rq ((a * 65536).natAbs) b.natAbs * b = m := by
            rw [← hm]; congr 1; omega
          rw [e]; omega
      · unfold rnd
        by_cases na : a * 65536 < 0 <;> by_cases nb : b < 0
        · rw [if_neg (by simp [na, nb])]
          have e : rq ((a * 65536).natAbs) b.natAbs * b = - m := by
            rw [← hm, ← Int.mul_neg]; congr 1; omega
          rw [e]; omega
        · rw [if_pos (by simp [na, nb])]
          have e : -rq ((a * 65536).natAbs) b.natAbs * b = - m := by
            rw [← hm, Int.neg_mul]; congr 2; omega
          rw [e]; omega
        · rw [if_pos (by simp [na, nb])]
          have e : -rq ((a * 65536).natAbs) b.natAbs * b = m := by
            rw [← hm, Int.neg_mul, ← Int.mul_neg]; congr 1; omega
          rw [e]; omega
        · rw [if_neg (by simp [na, nb])]
          have e : rq ((a * 65536).natAbs) b.natAbs * b = m := by
            rw [← hm]; congr 1; omega
          rw [e]; omega
    obtain ⟨k1, k2, -⟩ := key
    generalize rnd (a * 65536) b * b = m at *
    rw [w64 (x := a * 65536) (by omega) (by omega), w64 (x := m) (by omega) (by omega), w64 (x := a * 65536 - m) (by omega) (by omega),
      w64 (x := 2 * (a * 65536 - m)) (by omega) (by omega), w64 (x := -(2 * (a * 65536 - m))) (by omega) (by omega), w64 (x := -b) (by omega) (by omega)]
    by_cases c1 : 2 * (a * 65536 - m) < 0
    · rw [if_pos c1]
      by_cases c2 : b < 0
      · rw [if_pos c2]; congr 1; apply decide_eq_true; omega
      · rw [if_neg c2]; congr 1; apply decide_eq_true; omega
    · rw [if_neg c1]
      by_cases c2 : b < 0
      · rw [if_pos c2]; congr 1; apply decide_eq_true; omega
      · rw [if_neg c2]; congr 1; apply decide_eq_true; omega
  · rw [if_neg he]

theorem j0_eq (k : Nat) (a b : Int) (ha : fitB a = true) (hb : fitB b = true) : mezzotintlaw01_FixNear.j0 (k + 5) a b false = some true := by
  simp only [mezzotintlaw01_FixNear.j0, mul_eq, Option.bind_some, j1_eq k a b ha hb]
  rw [if_neg (by simp)]
  by_cases he : (mulR a b).2 = 0
  · rw [if_pos he]
    obtain ⟨h1, h2⟩ := near_mul a b ha hb he
    rw [h1]
    rw [fitB_true] at ha hb h2
    have hp := prod_bounds ha.1 ha.2 hb.1 hb.2
    have key : ∀ P : Int, -4611686018427387904 ≤ P → P ≤ 4611686018427387904 → -65536 ≤ 2 * (P - rnd P 65536 * 65536) ∧ 2 * (P - rnd P 65536 * 65536) ≤ 65536 ∧
        (2 * (P - rnd P 65536 * 65536) = 65536 → ¬ P > 0) ∧ (2 * (P - rnd P 65536 * 65536) = -65536 → ¬ P < 0) := by
      intro P p1 p2
      unfold rnd
      by_cases n : P < 0
      · rw [if_pos (by simp [n])]
        rw [show (((65536 : Int).natAbs : Nat) : Int) = 65536 from rfl, show ((P.natAbs : Nat) : Int) = -P by omega, rq_lit]
        by_cases c : 32768 ≤ -P % 65536
        · rw [if_pos c]; omega
        · rw [if_neg c]; omega
      · rw [if_neg (by simp [n])]
        rw [show (((65536 : Int).natAbs : Nat) : Int) = 65536 from rfl, show ((P.natAbs : Nat) : Int) = P by omega, rq_lit]
        by_cases c : 32768 ≤ P % 65536
        · rw [if_pos c]; omega
        · rw [if_neg c]; omega
    obtain ⟨k1, k2, k3, k4⟩ := key (a * b) hp.1 hp.2
    generalize rnd (a * b) 65536 = q at *
    generalize a * b = P at *
    rw [w64 (x := P) (by omega) (by omega), w64 (x := q * 65536) (by omega) (by omega), w64 (x := P - q * 65536) (by omega) (by omega), w64 (x := 2 * (P - q * 65536)) (by omega) (by omega)]
    rw [if_neg (by omega), if_neg (by omega)]
    by_cases c1 : 2 * (P - q * 65536) = 65536
    · rw [if_pos c1, if_neg (k3 c1), if_neg (by omega)]
    · rw [if_neg c1]
      by_cases c2 : 2 * (P - q * 65536) = -65536
      · rw [if_pos c2, if_neg (k4 c2)]
      · rw [if_neg c2]
  · rw [if_neg he]

theorem FixNear : mezzotintlaw01_FixNear.Pure := by
  intro a b _ _
  refine ⟨0 + 5, ?_⟩
  have out : ∀ (x y : Int), mezzotintlaw01_FixNear.j0 (0 + 5) x y true = some true := by
    intro x y
    simp only [mezzotintlaw01_FixNear.j0, if_true]
    rw [answers_eq (0 + 1)]; rfl
  unfold mezzotintlaw01_FixNear.f
  rw [answers_eq (0 + 2)]
  simp only [Option.bind_some, rfits_eq, if_true]
  cases ha : fitB a
  · rw [if_neg (by simp)]; exact out a b
  · cases hb : fitB b
    · rw [if_pos rfl]; exact out a b
    · rw [if_pos rfl]; exact j0_eq 0 a b ha hb

end Go.Proofs.Ytonchamkagadbaa.Pure
