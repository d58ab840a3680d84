/- For all pairs of numbers the program's product and quotient are those of the document, rounded, or its errors: the walk of the functions that the print does not walk. No condition. -/
import Derived.Test.YtonchamkagadbaaPFixNearx2
import Derived.Test.YtonchamkagadbaaPFixSumsx1
import Derived.Test.YtonchamkagadbaaPFixRootsx1
namespace Go.Proofs.Ytonchamkagadbaa.ProdWalk
open Go.RowKit Go.Proofs.Ytonchamkagadbaa.PFixNear Go.Proofs.YtonchamkagadbaaW.PrintWords Go.Proofs.YtonchamkagadbaaW.PrintLast Go.Proofs.YtonchamkagadbaaW.PrintMore

theorem w64 {x : Int} (h0 : -9223372036854775808 ≤ x) (h1 : x ≤ 9223372036854775807) : wrap64 x = x := by unfold wrap64; omega

def fitB (a : Int) : Bool := decide (-2147483648 ≤ a ∧ a ≤ 2147483647)
theorem fitB_true {a : Int} : fitB a = true ↔ -2147483648 ≤ a ∧ a ≤ 2147483647 := by unfold fitB; exact decide_eq_true_iff
theorem fitB_false {a : Int} : fitB a = false ↔ ¬ (-2147483648 ≤ a ∧ a ≤ 2147483647) := by unfold fitB; exact decide_eq_false_iff_not

theorem fits_eq (a : Int) : fix_Fits.f a = some (fitB a) := by
  unfold fix_Fits.f fitB
  by_cases h : a ≥ -2147483648
  · rw [if_pos h]; congr 1; apply decide_eq_decide.2; omega
  · rw [if_neg h]; congr 1; symm; apply decide_eq_false; omega

theorem within_eq (a : Int) : fix_within.f a = some (if fitB a = true then (a, 0) else (0, 18)) := by
  unfold fix_within.f; rw [fits_eq]; simp only [Option.bind_some]; split <;> rfl

theorem all_eq (k : Nat) (a b : Int) : fix_all.f (k + 3) [a, b] = some (fitB a && fitB b) := by
  unfold fix_all.f
  have e0 : rd [a, b] 0 = a := rfl
  have e1 : rd [a, b] 1 = b := rfl
  have s1 : wrap64 1 = 1 := w64 (by omega) (by omega)
  have s2 : wrap64 2 = 2 := w64 (by omega) (by omega)
  simp only [fix_all.l0, List.length_cons, List.length_nil]
  simp [fits_eq, s1, s2, e0, e1]
  cases fitB a <;> cases fitB b <;> rfl

/-- The quotient of numbers that are not below 0, rounded half up. -/
def rq (a b : Int) : Int := if b ≤ 2 * (a % b) then a / b + 1 else a / b
/-- The quotient, rounded half away from 0. -/
def rnd (a b : Int) : Int := if (decide (a < 0) != decide (b < 0)) = true then - rq a.natAbs b.natAbs else rq a.natAbs b.natAbs

theorem rq_bounds (a b : Int) (ha : 0 ≤ a) (hb : 0 < b) : 0 ≤ rq a b ∧ rq a b ≤ a + 1 := by
  have h1 := Int.ediv_nonneg ha (Int.le_of_lt hb)
  have h2 : a / b ≤ a := Int.ediv_le_self _ ha
  unfold rq; split <;> omega

theorem over_pos (k : Nat) (a b : Int) (hb : 0 < b) (hb2 : b ≤ 2147483648) (ha : -4611686018427387904 ≤ a) (ha2 : a ≤ 4611686018427387904) :
    fix_over.j0 (k + 1) a b = some (rnd a b) := by
  have hb' : ((b.natAbs : Nat) : Int) = b := by omega
  have hbn : ¬ b < 0 := by omega
  simp only [fix_over.j0]
  rw [if_neg (by omega)]
  unfold rnd
  rw [hb']
  by_cases hn : a < 0
  · have ha' : ((a.natAbs : Nat) : Int) = -a := by omega
    have hs : (decide (a < 0) != decide (b < 0)) = true := by simp [hn, hbn]
    rw [ha', if_pos hs]
    have ed : Int.tdiv a b = -((-a) / b) := by
      rw [← Int.tdiv_eq_ediv_of_nonneg (by omega : 0 ≤ -a), Int.neg_tdiv]; omega
    have em : Int.tmod a b = -((-a) % b) := by
      rw [← Int.tmod_eq_emod_of_nonneg (by omega : 0 ≤ -a), Int.neg_tmod]; omega
    rw [ed, em]
    have h1 := Int.emod_nonneg (-a) (by omega : b ≠ 0)
    have h2 := Int.emod_lt_of_pos (-a) hb
    have h3 := Int.ediv_nonneg (by omega : 0 ≤ -a) (Int.le_of_lt hb)
    have h4 : (-a) / b ≤ -a := Int.ediv_le_self _ (by omega)
    unfold rq
    generalize (-a) % b = r at *
    generalize (-a) / b = q at *
    rw [w64 (x := 2 * -r) (by omega) (by omega), if_neg (by omega : ¬ 2 * -r ≥ b), w64 (x := -2 * -r) (by omega) (by omega), w64 (x := -q) (by omega) (by omega), w64 (x := -q - 1) (by omega) (by omega)]
    by_cases hr : b ≤ 2 * r
    · rw [if_pos (by omega : -2 * -r ≥ b), if_pos hr]; congr 1; omega
    · rw [if_neg (by omega : ¬ -2 * -r ≥ b), if_neg hr]
  · have ha' : ((a.natAbs : Nat) : Int) = a := by omega
    have hs : ¬ (decide (a < 0) != decide (b < 0)) = true := by simp [hn, hbn]
    rw [ha', if_neg hs]
    have ed : Int.tdiv a b = a / b := Int.tdiv_eq_ediv_of_nonneg (by omega)
    have em : Int.tmod a b = a % b := Int.tmod_eq_emod_of_nonneg (by omega)
    rw [ed, em]
    have h1 := Int.emod_nonneg a (by omega : b ≠ 0)
    have h2 := Int.emod_lt_of_pos a hb
    have h3 := Int.ediv_nonneg (by omega : 0 ≤ a) (Int.le_of_lt hb)
    have h4 : a / b ≤ a := Int.ediv_le_self _ (by omega)
    unfold rq
    generalize a % b = r at *
    generalize a / b = q at *
    rw [w64 (x := 2 * r) (by omega) (by omega), w64 (x := -2 * r) (by omega) (by omega), w64 (x := q) (by omega) (by omega), w64 (x := q + 1) (by omega) (by omega)]
    by_cases hr : b ≤ 2 * r
    · rw [if_pos (by omega : 2 * r ≥ b), if_pos hr]
    · rw [if_neg (by omega : ¬ 2 * r ≥ b), if_neg (by omega : ¬ -2 * r ≥ b), if_neg hr]

theorem over_eq (k : Nat) (a b : Int) (hb : b ≠ 0) (hb1 : -2147483648 ≤ b) (hb2 : b ≤ 2147483647) (ha : -4611686018427387904 ≤ a) (ha2 : a ≤ 4611686018427387904) :
    fix_over.f (k + 1) a b = some (rnd a b) := by
  unfold fix_over.f
  by_cases hn : b < 0
  · rw [if_pos hn, w64 (by omega) (by omega), w64 (by omega) (by omega), over_pos k (-a) (-b) (by omega) (by omega) (by omega) (by omega)]
    congr 1
    unfold rnd
    rw [Int.natAbs_neg, Int.natAbs_neg]
    by_cases h0 : a = 0
    · subst h0
      have : rq (Int.natAbs 0) b.natAbs = 0 := by
        unfold rq; rw [show ((Int.natAbs 0 : Nat) : Int) = 0 from rfl, Int.zero_emod, Int.zero_ediv, if_neg (by omega)]
      rw [this]; simp
    · have e1 : decide (-a < 0) = !decide (a < 0) := by
        rw [← decide_not]; apply decide_eq_decide.2; omega
      have e2 : decide (-b < 0) = !decide (b < 0) := by
        rw [← decide_not]; apply decide_eq_decide.2; omega
      rw [e1, e2]; cases decide (a < 0) <;> cases decide (b < 0) <;> rfl
  · rw [if_neg hn, over_pos k a b (by omega) (by omega) ha ha2]

theorem prod_bounds {a b : Int} (ha : -2147483648 ≤ a) (ha2 : a ≤ 2147483647) (hb : -2147483648 ≤ b) (hb2 : b ≤ 2147483647) :
    -4611686018427387904 ≤ a * b ∧ a * b ≤ 4611686018427387904 := by
  have h : (a * b).natAbs ≤ 2147483648 * 2147483648 := by
    rw [Int.natAbs_mul]; exact Nat.mul_le_mul (by omega) (by omega)
  omega

/-- What a product comes to. -/
def mulR (a b : Int) : Int × Int := if (fitB a && fitB b) = true then (if fitB (rnd (a * b) 65536) = true then (rnd (a * b) 65536, 0) else (0, 18)) else (0, 11)
/-- What a quotient comes to. -/
def divR (a b : Int) : Int × Int := if (fitB a && fitB b) = true then (if b = 0 then (0, 18) else if fitB (rnd (a * 65536) b) = true then (rnd (a * 65536) b, 0) else (0, 18)) else (0, 11)
/-- What a sum comes to. -/
def addR (a b : Int) : Int × Int := if (fitB a && fitB b) = true then (if fitB (a + b) = true then (a + b, 0) else (0, 18)) else (0, 11)
/-- What a difference comes to. -/
def subR (a b : Int) : Int × Int := if (fitB a && fitB b) = true then (if fitB (a - b) = true then (a - b, 0) else (0, 18)) else (0, 11)

theorem mul_eq (k : Nat) (a b : Int) : fix_Mul.f (k + 3) a b = some (mulR a b) := by
  unfold fix_Mul.f mulR
  rw [all_eq]; simp only [Option.bind_some]
  by_cases h : (fitB a && fitB b) = true
  · rw [if_pos h, if_pos h]
    rw [Bool.and_eq_true, fitB_true, fitB_true] at h
    have hp := prod_bounds h.1.1 h.1.2 h.2.1 h.2.2
    rw [w64 (by omega) (by omega), over_eq (k + 2) _ _ (by omega) (by omega) (by omega) hp.1 hp.2]
    simp only [Option.bind_some, within_eq]
  · rw [if_neg h, if_neg h]

theorem answers_eq (k : Nat) : mezzotintlaw01_answers.f (k + 3) = some true := by
  unfold mezzotintlaw01_answers.f
  rw [mul_eq, show mulR 32768 196608 = (98304, 0) by decide]; rfl

theorem div_eq (k : Nat) (a b : Int) : fix_Div.f (k + 3) a b = some (divR a b) := by
  unfold fix_Div.f divR
  rw [all_eq]; simp only [Option.bind_some]
  by_cases h : (fitB a && fitB b) = true
  · rw [if_pos h, if_pos h]
    rw [Bool.and_eq_true, fitB_true, fitB_true] at h
    by_cases hb : b = 0
    · rw [if_pos hb, if_pos hb]
    · rw [if_neg hb, if_neg hb, w64 (by omega) (by omega), over_eq (k + 2) _ _ hb (by omega) (by omega) (by omega) (by omega)]
      simp only [Option.bind_some, within_eq]
  · rw [if_neg h, if_neg h]

theorem rfits_eq (a : Int) : mezzotintref01_Fits.f a = some (fitB a) := by
  unfold mezzotintref01_Fits.f fitB
  by_cases h : a ≥ -2147483648
  · rw [if_pos h]; congr 1; apply decide_eq_decide.2; omega
  · rw [if_neg h]; congr 1; symm; apply decide_eq_false; omega

theorem ret_int {k : IntKind} {a b : Int} (h : a = b) : Ending.returned (.int k a) = .returned (.int k b) := by rw [h]

/-- What the quotient and the rest of two numbers are, by their signs. -/
theorem parts (a b : Int) (ha : -4611686018427387904 ≤ a) (ha2 : a ≤ 4611686018427387904) (hb1 : -2147483648 ≤ b) (hb2 : b ≤ 2147483647) (hb : b ≠ 0) :
    ∃ q r : Int, 0 ≤ q ∧ q ≤ 4611686018427387904 ∧ 0 ≤ r ∧ r < 2147483648 ∧
      ((a < 0 ∧ b < 0 ∧ a.tdiv b = q ∧ a.tmod b = -r ∧ rnd a b = if -b ≤ 2 * r then q + 1 else q) ∨
       (a < 0 ∧ 0 < b ∧ a.tdiv b = -q ∧ a.tmod b = -r ∧ rnd a b = -(if b ≤ 2 * r then q + 1 else q)) ∨
       (0 ≤ a ∧ b < 0 ∧ a.tdiv b = -q ∧ a % b = r ∧ rnd a b = -(if -b ≤ 2 * r then q + 1 else q)) ∨
       (0 ≤ a ∧ 0 < b ∧ a / b = q ∧ a % b = r ∧ rnd a b = if b ≤ 2 * r then q + 1 else q)) := by
  have hB : 0 < ((b.natAbs : Nat) : Int) := by omega
  have m1 := Int.emod_nonneg (a.natAbs : Int) (by omega : ((b.natAbs : Nat) : Int) ≠ 0)
  have m2 := Int.emod_lt_of_pos (a.natAbs : Int) hB
  have m3 := Int.ediv_nonneg (by omega : 0 ≤ (a.natAbs : Int)) (Int.le_of_lt hB)
  have m4 : (a.natAbs : Int) / (b.natAbs : Int) ≤ a.natAbs := Int.ediv_le_self _ (by omega)
  refine ⟨(a.natAbs : Int) / (b.natAbs : Int), (a.natAbs : Int) % (b.natAbs : Int), m3, by omega, m1, by omega, ?_⟩
  rw [← Int.tdiv_eq_ediv_of_nonneg (by omega : 0 ≤ (a.natAbs : Int)), ← Int.tmod_eq_emod_of_nonneg (by omega : 0 ≤ (a.natAbs : Int))]
  have hr : rnd a b = (if (decide (a < 0) != decide (b < 0)) = true then - (if (b.natAbs : Int) ≤ 2 * Int.tmod a.natAbs b.natAbs then Int.tdiv a.natAbs b.natAbs + 1 else Int.tdiv a.natAbs b.natAbs) else (if (b.natAbs : Int) ≤ 2 * Int.tmod a.natAbs b.natAbs then Int.tdiv a.natAbs b.natAbs + 1 else Int.tdiv a.natAbs b.natAbs)) := by
    rw [Int.tdiv_eq_ediv_of_nonneg (by omega : 0 ≤ (a.natAbs : Int)), Int.tmod_eq_emod_of_nonneg (by omega : 0 ≤ (a.natAbs : Int))]; rfl
  rw [hr]
  by_cases na : a < 0 <;> by_cases nb : b < 0
  · left
    rw [show (a.natAbs : Int) = -a by omega, show (b.natAbs : Int) = -b by omega, if_neg (by simp [na, nb])]
    simp only [Int.neg_tdiv, Int.tdiv_neg, Int.neg_tmod, Int.tmod_neg]
    exact ⟨na, nb, by omega, by omega, trivial⟩
  · right; left
    rw [show (a.natAbs : Int) = -a by omega, show (b.natAbs : Int) = b by omega, if_pos (by simp [na, nb])]
    simp only [Int.neg_tdiv, Int.neg_tmod]
    exact ⟨na, by omega, by omega, by omega, trivial⟩
  · right; right; left
    rw [show (a.natAbs : Int) = a by omega, show (b.natAbs : Int) = -b by omega, if_pos (by simp [na, nb])]
    rw [← Int.tmod_eq_emod_of_nonneg (by omega : 0 ≤ a)]
    simp only [Int.tdiv_neg, Int.tmod_neg]
    exact ⟨by omega, nb, by omega, by trivial, by trivial⟩
  · right; right; right
    rw [show (a.natAbs : Int) = a by omega, show (b.natAbs : Int) = b by omega, if_neg (by simp [na, nb])]
    rw [← Int.tmod_eq_emod_of_nonneg (by omega : 0 ≤ a), ← Int.tdiv_eq_ediv_of_nonneg (by omega : 0 ≤ a)]
    exact ⟨by omega, by omega, rfl, rfl, rfl⟩

set_option maxHeartbeats 1600000 in
set_option maxRecDepth 100000 in
theorem rounded_calls (a b : Int) (w : World) (ha : -4611686018427387904 ≤ a) (ha2 : a ≤ 4611686018427387904) (hb1 : -2147483648 ≤ b) (hb2 : b ≤ 2147483647) (hb : b ≠ 0) :
    Calls Try.prog 39 #[.int .i64 a, .int .i64 b] w fun e w' => e = .returned (.int .i64 (rnd a b)) ∧ Drawn0 w w' := by
  obtain ⟨q, r, q0, q1, r0, r1, h⟩ := parts a b ha ha2 hb1 hb2 hb
  have c3 : (b == 0) = false := beq_eq_false_iff_ne.mpr (by omega)
  clear hb
  rcases h with ⟨na, nb, e1, e2, e3⟩ | ⟨na, nb, e1, e2, e3⟩ | ⟨na, nb, e1, e2, e3⟩ | ⟨na, nb, e1, e2, e3⟩
  · have E := Aside0.mk (And.intro e1 (And.intro e2 e3))
    clear e1 e2 e3
    have c1 : decide (a < 0) = true := decide_eq_true na
    have c2 : decide (b < 0) = true := decide_eq_true nb
    go_enter Try.func39, Try.ntmps39
    go_wp2
    go_quiet (fail)
    go_wp2
    all_goals
      go_ret
      refine ⟨ret_int ?_, by repeat (first | exact Drawn0.refl _ | apply Drawn0.step)⟩
      obtain ⟨e1, e2, e3⟩ := E.out
      rw [e3]
      simp only [e1, e2] at *
      unfold wrap64 at *
      split <;> omega
  · have E := Aside0.mk (And.intro e1 (And.intro e2 e3))
    clear e1 e2 e3
    have c1 : decide (a < 0) = true := decide_eq_true na
    have c2 : decide (b < 0) = false := decide_eq_false (by omega)
    go_enter Try.func39, Try.ntmps39
    go_wp2
    go_quiet (fail)
    go_wp2
    all_goals
      go_ret
      refine ⟨ret_int ?_, by repeat (first | exact Drawn0.refl _ | apply Drawn0.step)⟩
      obtain ⟨e1, e2, e3⟩ := E.out
      rw [e3]
      simp only [e1, e2] at *
      unfold wrap64 at *
      split <;> omega
  · have E := Aside0.mk (And.intro e1 (And.intro e2 e3))
    clear e1 e2 e3
    have c1 : decide (a < 0) = false := decide_eq_false (by omega)
    have c2 : decide (b < 0) = true := decide_eq_true nb
    go_enter Try.func39, Try.ntmps39
    go_wp2
    go_quiet (fail)
    go_wp2
    all_goals
      go_ret
      refine ⟨ret_int ?_, by repeat (first | exact Drawn0.refl _ | apply Drawn0.step)⟩
      obtain ⟨e1, e2, e3⟩ := E.out
      rw [e3]
      simp only [e1, e2] at *
      unfold wrap64 at *
      split <;> omega
  · have E := Aside0.mk (And.intro e1 (And.intro e2 e3))
    clear e1 e2 e3
    have c1 : decide (a < 0) = false := decide_eq_false (by omega)
    have c2 : decide (b < 0) = false := decide_eq_false (by omega)
    go_enter Try.func39, Try.ntmps39
    go_wp2
    go_quiet (fail)
    go_wp2
    all_goals
      go_ret
      refine ⟨ret_int ?_, by repeat (first | exact Drawn0.refl _ | apply Drawn0.step)⟩
      obtain ⟨e1, e2, e3⟩ := E.out
      rw [e3]
      simp only [e1, e2] at *
      unfold wrap64 at *
      split <;> omega

/-- What a number comes to, if it fits. -/
def keepR (a : Int) : Int × Int := if fitB a = true then (a, 0) else (0, 18)

theorem keep_eq (a : Int) : PFixSums.mezzotintref01_keep.f a = some (keepR a) := by
  unfold PFixSums.mezzotintref01_keep.f
  rw [show PFixSums.mezzotintref01_Fits.f a = some (fitB a) from rfits_eq a]; simp only [Option.bind_some]
  unfold keepR; split <;> rfl

theorem same_self (a b : Int) : PFixRoots.mezzotintlaw01_same.f a b a b = some true := by
  unfold PFixRoots.mezzotintlaw01_same.f; simp

theorem cMul (a b : Int) (w : World) : Calls Try.prog 10 #[.int .i64 a, .int .i64 b] w fun e w' => e = .returned (.tuple #[.int .i64 (mulR a b).1, .int .i64 (mulR a b).2]) ∧ Below w.heap.size w w' :=
  fix_Mul.calls 3 a b _ _ w (mul_eq 0 a b)
theorem cDiv (a b : Int) (w : World) : Calls Try.prog 12 #[.int .i64 a, .int .i64 b] w fun e w' => e = .returned (.tuple #[.int .i64 (divR a b).1, .int .i64 (divR a b).2]) ∧ Below w.heap.size w w' :=
  fix_Div.calls 3 a b _ _ w (div_eq 0 a b)
theorem cFits (a : Int) (w : World) : Calls Try.prog 16 #[.int .i64 a] w fun e w' => e = .returned (.bool (fitB a)) ∧ Drawn0 w w' :=
  mezzotintref01_Fits.calls a _ w (rfits_eq a)
theorem cKeep (a : Int) (w : World) : Calls Try.prog 38 #[.int .i64 a] w fun e w' => e = .returned (.tuple #[.int .i64 (keepR a).1, .int .i64 (keepR a).2]) ∧ Drawn0 w w' :=
  PFixSums.mezzotintref01_keep.calls a _ _ w (keep_eq a)
theorem cAnswers (w : World) : Calls Try.prog 14 #[] w fun e w' => e = .returned (.bool true) ∧ Below w.heap.size w w' :=
  mezzotintlaw01_answers.calls 3 true w (answers_eq 0)
theorem cSame (a b : Int) (w : World) : Calls Try.prog 15 #[.int .i64 a, .int .i64 b, .int .i64 a, .int .i64 b] w fun e w' => e = .returned (.bool true) ∧ Drawn0 w w' :=
  PFixRoots.mezzotintlaw01_same.calls a b a b true w (same_self a b)

theorem mulR_fit {a b : Int} (ha : fitB a = true) (hb : fitB b = true) : mulR a b = keepR (rnd (a * b) 65536) := by
  unfold mulR; rw [ha, hb]; rfl
theorem mulR_no {a b : Int} (h : (fitB a && fitB b) = false) : mulR a b = (0, 11) := by
  unfold mulR; rw [h]; rfl
theorem divR_fit {a b : Int} (ha : fitB a = true) (hb : fitB b = true) (h0 : b ≠ 0) : divR a b = keepR (rnd (a * 65536) b) := by
  unfold divR; rw [ha, hb, if_neg h0]; rfl
theorem divR_zero {a b : Int} (ha : fitB a = true) (hb : fitB b = true) (h0 : b = 0) : divR a b = (0, 18) := by
  unfold divR; rw [ha, hb, if_pos h0]; rfl
theorem divR_no {a b : Int} (h : (fitB a && fitB b) = false) : divR a b = (0, 11) := by
  unfold divR; rw [h]; rfl

set_option maxHeartbeats 1600000 in
set_option maxRecDepth 100000 in
theorem rMul (a b : Int) (w : World) : Calls Try.prog 11 #[.int .i64 a, .int .i64 b] w fun e w' => e = .returned (.tuple #[.int .i64 (mulR a b).1, .int .i64 (mulR a b).2]) ∧ Drawn0 w w' := by
  cases ha : fitB a
  · rw [mulR_no (by rw [ha]; rfl)]
    go_enter Try.func11, Try.ntmps11
    go_wp2_with (go_at_call 16; ((with_reducible refine (cFits _ _).mono ?_); rintro e w' ⟨rfl, ⟨nd, rfl⟩⟩))
    go_ret2
    exact ⟨rfl, by repeat (first | exact Drawn0.refl _ | apply Drawn0.step)⟩
  · cases hb : fitB b
    · rw [mulR_no (by rw [ha, hb]; rfl)]
      go_enter Try.func11, Try.ntmps11
      go_wp2_with (go_at_call 16; ((with_reducible refine (cFits _ _).mono ?_); rintro e w' ⟨rfl, ⟨nd, rfl⟩⟩))
      go_ret2
      exact ⟨rfl, by repeat (first | exact Drawn0.refl _ | apply Drawn0.step)⟩
    · rw [mulR_fit ha hb]
      have h1 := fitB_true.1 ha
      have h2 := fitB_true.1 hb
      have hp := prod_bounds h1.1 h1.2 h2.1 h2.2
      obtain ⟨p1, p2⟩ := hp
      clear h1 h2
      go_enter Try.func11, Try.ntmps11
      go_wp2_with (first | (go_at_call 16; ((with_reducible refine (cFits _ _).mono ?_); rintro e w' ⟨rfl, ⟨nd, rfl⟩⟩)) | (go_at_call 39; ((with_reducible refine (rounded_calls _ _ _ p1 p2 (by decide) (by decide) (by decide)).mono ?_); rintro e w' ⟨rfl, ⟨nd, rfl⟩⟩)) | (go_at_call 38; ((with_reducible refine (cKeep _ _).mono ?_); rintro e w' ⟨rfl, ⟨nd, rfl⟩⟩)))
      go_ret2
      exact ⟨rfl, by repeat (first | exact Drawn0.refl _ | apply Drawn0.step)⟩

set_option maxHeartbeats 1600000 in
set_option maxRecDepth 100000 in
theorem rDiv (a b : Int) (w : World) : Calls Try.prog 13 #[.int .i64 a, .int .i64 b] w fun e w' => e = .returned (.tuple #[.int .i64 (divR a b).1, .int .i64 (divR a b).2]) ∧ Drawn0 w w' := by
  cases ha : fitB a
  · rw [divR_no (by rw [ha]; rfl)]
    go_enter Try.func13, Try.ntmps13
    go_wp2_with (go_at_call 16; ((with_reducible refine (cFits _ _).mono ?_); rintro e w' ⟨rfl, ⟨nd, rfl⟩⟩))
    go_ret2
    exact ⟨rfl, by repeat (first | exact Drawn0.refl _ | apply Drawn0.step)⟩
  · cases hb : fitB b
    · rw [divR_no (by rw [ha, hb]; rfl)]
      go_enter Try.func13, Try.ntmps13
      go_wp2_with (go_at_call 16; ((with_reducible refine (cFits _ _).mono ?_); rintro e w' ⟨rfl, ⟨nd, rfl⟩⟩))
      go_ret2
      exact ⟨rfl, by repeat (first | exact Drawn0.refl _ | apply Drawn0.step)⟩
    · have h1 := fitB_true.1 ha
      have h2 := fitB_true.1 hb
      by_cases h0 : b = 0
      · rw [divR_zero ha hb h0]
        have c0 : (b == 0) = true := beq_iff_eq.mpr h0
        clear h0 h1 h2
        go_enter Try.func13, Try.ntmps13
        go_wp2_with (go_at_call 16; ((with_reducible refine (cFits _ _).mono ?_); rintro e w' ⟨rfl, ⟨nd, rfl⟩⟩))
        go_ret2
        exact ⟨rfl, by repeat (first | exact Drawn0.refl _ | apply Drawn0.step)⟩
      · rw [divR_fit ha hb h0]
        have c0 : (b == 0) = false := beq_eq_false_iff_ne.mpr h0
        have p1 : -4611686018427387904 ≤ a * 65536 := by omega
        have p2 : a * 65536 ≤ 4611686018427387904 := by omega
        obtain ⟨b1, b2⟩ := h2
        have HR := fun w => Aside0.mk (rounded_calls (a * 65536) b w p1 p2 b1 b2 h0)
        clear h1 h0 b1 b2
        go_enter Try.func13, Try.ntmps13
        go_wp2_with (first | (go_at_call 16; ((with_reducible refine (cFits _ _).mono ?_); rintro e w' ⟨rfl, ⟨nd, rfl⟩⟩)) | (go_at_call 39; ((with_reducible refine (HR _).out.mono ?_); rintro e w' ⟨rfl, ⟨nd, rfl⟩⟩)) | (go_at_call 38; ((with_reducible refine (cKeep _ _).mono ?_); rintro e w' ⟨rfl, ⟨nd, rfl⟩⟩)))
        go_ret2
        exact ⟨rfl, by repeat (first | exact Drawn0.refl _ | apply Drawn0.step)⟩
end Go.Proofs.Ytonchamkagadbaa.ProdWalk
