/- For every number ceiling, round, floor, truncate and fromInt are those of the document. No condition. -/
import Derived.OpenShut
import Derived.Test.YtonchamkagadbaaPFixWholesx2
namespace Go.Proofs.Ytonchamkagadbaa.Pure
open Go.RowKit Go.Proofs.Ytonchamkagadbaa.PFixWholes Go.Proofs.YtonchamkagadbaaW.PrintWords Go.Proofs.YtonchamkagadbaaW.PrintLast

theorem w64 {x : Int} (h0 : -9223372036854775808 ≤ x) (h1 : x ≤ 9223372036854775807) : wrap64 x = x := by unfold wrap64; omega

def fitB (a : Int) : Bool := decide (-2147483648 ≤ a ∧ a ≤ 2147483647)
theorem fitB_true {a : Int} : fitB a = true ↔ -2147483648 ≤ a ∧ a ≤ 2147483647 := by unfold fitB; exact decide_eq_true_iff
theorem fitB_false {a : Int} : fitB a = false ↔ ¬ (-2147483648 ≤ a ∧ a ≤ 2147483647) := by unfold fitB; exact decide_eq_false_iff_not

theorem fits_eq (a : Int) : fix_Fits.f a = some (fitB a) := by
  unfold fix_Fits.f fitB
  by_cases h : a ≥ -2147483648
  · rw [if_pos h]; congr 1; apply decide_eq_decide.2; omega
  · rw [if_neg h]; congr 1; symm; apply decide_eq_false; omega

theorem within_eq (a : Int) : fix_within.f a = some (if fitB a = true then (a, 0) else (0, 18)) := by
  unfold fix_within.f; rw [fits_eq]; simp only [Option.bind_some]; split <;> rfl

theorem all_eq (k : Nat) (a b : Int) : fix_all.f (k + 3) [a, b] = some (fitB a && fitB b) := by
  unfold fix_all.f
  have e0 : rd [a, b] 0 = a := rfl
  have e1 : rd [a, b] 1 = b := rfl
  have s1 : wrap64 1 = 1 := w64 (by omega) (by omega)
  have s2 : wrap64 2 = 2 := w64 (by omega) (by omega)
  simp only [fix_all.l0, List.length_cons, List.length_nil]
  simp [fits_eq, s1, s2, e0, e1]
  cases fitB a <;> cases fitB b <;> rfl

/-- The quotient of numbers that are not below 0, rounded half up. -/
def rq (a b : Int) : Int := if b ≤ 2 * (a % b) then a / b + 1 else a / b
/-- The quotient, rounded half away from 0. -/
def rnd (a b : Int) : Int := if (decide (a < 0) != decide (b < 0)) = true then - rq a.natAbs b.natAbs else rq a.natAbs b.natAbs

theorem rq_bounds (a b : Int) (ha : 0 ≤ a) (hb : 0 < b) : 0 ≤ rq a b ∧ rq a b ≤ a + 1 := by
  have h1 := Int.ediv_nonneg ha (Int.le_of_lt hb)
  have h2 : a / b ≤ a := Int.ediv_le_self _ ha
  unfold rq; split <;> omega

theorem over_pos (k : Nat) (a b : Int) (hb : 0 < b) (hb2 : b ≤ 2147483648) (ha : -4611686018427387904 ≤ a) (ha2 : a ≤ 4611686018427387904) :
    fix_over.j0 (k + 1) a b = some (rnd a b) := by
  have hb' : ((b.natAbs : Nat) : Int) = b := by omega
  have hbn : ¬ b < 0 := by omega
  simp only [fix_over.j0]
  rw [if_neg (by omega)]
  unfold rnd
  rw [hb']
  by_cases hn : a < 0
  · have ha' : ((a.natAbs : Nat) : Int) = -a := by omega
    have hs : (decide (a < 0) != decide (b < 0)) = true := by simp [hn, hbn]
    rw [ha', if_pos hs]
    have ed : Int.tdiv a b = -((-a) / b) := by
      rw [← Int.tdiv_eq_ediv_of_nonneg (by omega : 0 ≤ -a), Int.neg_tdiv]; omega
    have em : Int.tmod a b = -((-a) % b) := by
      rw [← Int.tmod_eq_emod_of_nonneg (by omega : 0 ≤ -a), Int.neg_tmod]; omega
    rw [ed, em]
    have h1 := Int.emod_nonneg (-a) (by omega : b ≠ 0)
    have h2 := Int.emod_lt_of_pos (-a) hb
    have h3 := Int.ediv_nonneg (by omega : 0 ≤ -a) (Int.le_of_lt hb)
    have h4 : (-a) / b ≤ -a := Int.ediv_le_self _ (by omega)
    unfold rq
    generalize (-a) % b = r at *
    generalize (-a) / b = q at *
    rw [w64 (x := 2 * -r) (by omega) (by omega), if_neg (by omega : ¬ 2 * -r ≥ b), w64 (x := -2 * -r) (by omega) (by omega), w64 (x := -q) (by omega) (by omega), w64 (x := -q - 1) (by omega) (by omega)]
    by_cases hr : b ≤ 2 * r
    · rw [if_pos (by omega : -2 * -r ≥ b), if_pos hr]; congr 1; omega
    · rw [if_neg (by omega : ¬ -2 * -r ≥ b), if_neg hr]
  · have ha' : ((a.natAbs : Nat) : Int) = a := by omega
    have hs : ¬ (decide (a < 0) != decide (b < 0)) = true := by simp [hn, hbn]
    rw [ha', if_neg hs]
    have ed : Int.tdiv a b = a / b := Int.tdiv_eq_ediv_of_nonneg (by omega)
    have em : Int.tmod a b = a % b := Int.tmod_eq_emod_of_nonneg (by omega)
    rw [ed, em]
    have h1 := Int.emod_nonneg a (by omega : b ≠ 0)
    have h2 := Int.emod_lt_of_pos a hb
    have h3 := Int.ediv_nonneg (by omega : 0 ≤ a) (Int.le_of_lt hb)
    have h4 : a / b ≤ a := Int.ediv_le_self _ (by omega)
    unfold rq
    generalize a % b = r at *
    generalize a / b = q at *
    rw [w64 (x := 2 * r) (by omega) (by omega), w64 (x := -2 * r) (by omega) (by omega), w64 (x := q) (by omega) (by omega), w64 (x := q + 1) (by omega) (by omega)]
    by_cases hr : b ≤ 2 * r
    · rw [if_pos (by omega : 2 * r ≥ b), if_pos hr]
    · rw [if_neg (by omega : ¬ 2 * r ≥ b), if_neg (by omega : ¬ -2 * r ≥ b), if_neg hr]

theorem over_eq (k : Nat) (a b : Int) (hb : b ≠ 0) (hb1 : -2147483648 ≤ b) (hb2 : b ≤ 2147483647) (ha : -4611686018427387904 ≤ a) (ha2 : a ≤ 4611686018427387904) :
    fix_over.f (k + 1) a b = some (rnd a b) := by
  unfold fix_over.f
  by_cases hn : b < 0
  · rw [if_pos hn, w64 (by omega) (by omega), w64 (by omega) (by omega), over_pos k (-a) (-b) (by omega) (by omega) (by omega) (by omega)]
    congr 1
    unfold rnd
    rw [Int.natAbs_neg, Int.natAbs_neg]
    by_cases h0 : a = 0
    · subst h0
      have : rq (Int.natAbs 0) b.natAbs = 0 := by
        unfold rq; rw [show ((Int.natAbs 0 : Nat) : Int) = 0 from rfl, Int.zero_emod, Int.zero_ediv, if_neg (by omega)]
      rw [this]; simp
    · have e1 : decide (-a < 0) = !decide (a < 0) := by
        rw [← decide_not]; apply decide_eq_decide.2; omega
      have e2 : decide (-b < 0) = !decide (b < 0) := by
        rw [← decide_not]; apply decide_eq_decide.2; omega
      rw [e1, e2]; cases decide (a < 0) <;> cases decide (b < 0) <;> rfl
  · rw [if_neg hn, over_pos k a b (by omega) (by omega) ha ha2]

theorem prod_bounds {a b : Int} (ha : -2147483648 ≤ a) (ha2 : a ≤ 2147483647) (hb : -2147483648 ≤ b) (hb2 : b ≤ 2147483647) :
    -4611686018427387904 ≤ a * b ∧ a * b ≤ 4611686018427387904 := by
  have h : (a * b).natAbs ≤ 2147483648 * 2147483648 := by
    rw [Int.natAbs_mul]; exact Nat.mul_le_mul (by omega) (by omega)
  omega

/-- What a product comes to. -/
def mulR (a b : Int) : Int × Int := if (fitB a && fitB b) = true then (if fitB (rnd (a * b) 65536) = true then (rnd (a * b) 65536, 0) else (0, 18)) else (0, 11)
/-- What a quotient comes to. -/
def divR (a b : Int) : Int × Int := if (fitB a && fitB b) = true then (if b = 0 then (0, 18) else if fitB (rnd (a * 65536) b) = true then (rnd (a * 65536) b, 0) else (0, 18)) else (0, 11)
/-- What a sum comes to. -/
def addR (a b : Int) : Int × Int := if (fitB a && fitB b) = true then (if fitB (a + b) = true then (a + b, 0) else (0, 18)) else (0, 11)
/-- What a difference comes to. -/
def subR (a b : Int) : Int × Int := if (fitB a && fitB b) = true then (if fitB (a - b) = true then (a - b, 0) else (0, 18)) else (0, 11)

theorem mul_eq (k : Nat) (a b : Int) : fix_Mul.f (k + 3) a b = some (mulR a b) := by
  unfold fix_Mul.f mulR
  rw [all_eq]; simp only [Option.bind_some]
  by_cases h : (fitB a && fitB b) = true
  · rw [if_pos h, if_pos h]
    rw [Bool.and_eq_true, fitB_true, fitB_true] at h
    have hp := prod_bounds h.1.1 h.1.2 h.2.1 h.2.2
    rw [w64 (by omega) (by omega), over_eq (k + 2) _ _ (by omega) (by omega) (by omega) hp.1 hp.2]
    simp only [Option.bind_some, within_eq]
  · rw [if_neg h, if_neg h]

theorem answers_eq (k : Nat) : mezzotintlaw01_answers.f (k + 3) = some true := by
  unfold mezzotintlaw01_answers.f
  rw [mul_eq, show mulR 32768 196608 = (98304, 0) by decide]; rfl

theorem rfits_eq (a : Int) : mezzotintref01_Fits.f a = some (fitB a) := by
  unfold mezzotintref01_Fits.f fitB
  by_cases h : a ≥ -2147483648
  · rw [if_pos h]; congr 1; apply decide_eq_decide.2; omega
  · rw [if_neg h]; congr 1; symm; apply decide_eq_false; omega

theorem keep_eq (a : Int) : mezzotintref01_keep.f a = some (if fitB a = true then (a, 0) else (0, 18)) := by
  unfold mezzotintref01_keep.f; rw [rfits_eq]; simp only [Option.bind_some]; split <;> rfl

theorem and_mask (x : Nat) (h : x < 18446744073709551616) : x &&& 18446744073709486080 = x - x % 65536 := by
  have e : x - x % 65536 = x >>> 16 <<< 16 := by rw [Nat.shiftRight_eq_div_pow, Nat.shiftLeft_eq]; omega
  rw [e, show (18446744073709486080 : Nat) = (2 ^ 48 - 1) <<< 16 by decide]
  apply Nat.eq_of_testBit_eq
  intro i
  rw [Nat.testBit_and, Nat.testBit_shiftLeft, Nat.testBit_shiftLeft, Nat.testBit_shiftRight, Nat.testBit_two_pow_sub_one]
  by_cases c : 16 ≤ i
  · rw [show 16 + (i - 16) = i by omega]
    by_cases c2 : i < 64
    · rw [decide_eq_true (by omega : i - 16 < 48), decide_eq_true (by omega : i ≥ 16)]; simp
    · have : x.testBit i = false := Nat.testBit_lt_two_pow (Nat.lt_of_lt_of_le h (by
        have := Nat.pow_le_pow_right (by omega : 0 < 2) (by omega : 64 ≤ i)
        omega))
      rw [this]; simp
  · rw [decide_eq_false (by omega : ¬ i ≥ 16)]; simp

theorem i64_floor (a : Int) (h0 : -9223372036854775808 ≤ a) (h1 : a ≤ 9223372036854775807) : Go.bits .andNot .i64 a 65535 = a - a % 65536 := by
  show IntKind.i64.wrap ((BitVec.ofInt 64 a &&& ~~~ BitVec.ofInt 64 65535).toNat : Int) = _
  have e1 : (~~~ BitVec.ofInt 64 65535).toNat = 18446744073709486080 := by decide
  have e2 : ((BitVec.ofInt 64 a).toNat : Int) = a % 18446744073709551616 := by
    rw [BitVec.toNat_ofInt]; omega
  have h2 := (BitVec.ofInt 64 a).isLt
  rw [BitVec.toNat_and, e1, and_mask _ (by omega), IntKind.wrap_i64]
  generalize (BitVec.ofInt 64 a).toNat = n at *
  omega

theorem floor_eq (a : Int) : fix_Floor.f a = some (if fitB a = true then a - a % 65536 else 0) := by
  unfold fix_Floor.f
  rw [fits_eq, Option.bind_some]
  cases h : fitB a
  · rfl
  · rw [fitB_true] at h
    rw [if_pos rfl, if_pos rfl, i64_floor a (by omega) (by omega)]

/-- What a number comes to, if it fits. -/
def keepR (a : Int) : Int × Int := if fitB a = true then (a, 0) else (0, 18)

theorem ceiling_eq (a : Int) : fix_Ceiling.f a = some (if fitB a = true then keepR (a + 65535 - (a + 65535) % 65536) else (0, 11)) := by
  unfold fix_Ceiling.f
  rw [fits_eq, Option.bind_some]
  cases h : fitB a
  · rfl
  · rw [fitB_true] at h
    rw [if_pos rfl, if_pos rfl, w64 (x := a + 65536) (by omega) (by omega), w64 (x := a + 65536 - 1) (by omega) (by omega), i64_floor _ (by omega) (by omega), within_eq, Option.bind_some, show a + 65536 - 1 = a + 65535 by omega]
    rfl

theorem round_eq (a : Int) : fix_Round.f a = some (if fitB a = true then keepR (a + 32768 - (a + 32768) % 65536) else (0, 11)) := by
  unfold fix_Round.f
  rw [fits_eq, Option.bind_some]
  cases h : fitB a
  · rfl
  · rw [fitB_true] at h
    rw [if_pos rfl, if_pos rfl, w64 (x := a + 32768) (by omega) (by omega), i64_floor _ (by omega) (by omega), within_eq, Option.bind_some]
    rfl

theorem truncate_eq (a : Int) : fix_Truncate.f a = some (if fitB a = true then (if a < 0 then a + (-a) % 65536 else a - a % 65536) else 0) := by
  unfold fix_Truncate.f
  rw [fits_eq, Option.bind_some]
  cases h : fitB a
  · rfl
  · have h' := fitB_true.1 h
    rw [if_pos rfl, if_pos rfl]
    by_cases c : a < 0
    · rw [if_pos c, if_pos c, w64 (x := -a) (by omega) (by omega), i64_floor (-a) (by omega) (by omega), w64 (by omega) (by omega)]
      congr 1; omega
    · rw [if_neg c, if_neg c, floor_eq, Option.bind_some, h, if_pos rfl]

theorem below_eq (a : Int) (h0 : -2147483648 ≤ a) (h1 : a ≤ 2147483647) : mezzotintref01_below.f a = some (a - a % 65536) := by
  unfold mezzotintref01_below.f
  have e : Int.tmod a 65536 = if a < 0 then - ((-a) % 65536) else a % 65536 := by
    by_cases c : a < 0
    · rw [if_pos c, ← Int.tmod_eq_emod_of_nonneg (by omega : 0 ≤ -a), Int.neg_tmod]; omega
    · rw [if_neg c, Int.tmod_eq_emod_of_nonneg (by omega)]
  rw [e]
  by_cases c : a < 0
  · rw [if_pos c]
    by_cases c2 : -(-a % 65536) < 0
    · rw [if_pos c2, w64 (x := -(-a % 65536) + 65536) (by omega) (by omega), w64 (by omega) (by omega)]; congr 1; omega
    · rw [if_neg c2, w64 (by omega) (by omega)]; congr 1; omega
  · rw [if_neg c, if_neg (by omega), w64 (by omega) (by omega)]

theorem rfloor_eq (a : Int) : mezzotintref01_Floor.f a = some (if fitB a = true then a - a % 65536 else 0) := by
  unfold mezzotintref01_Floor.f
  rw [rfits_eq, Option.bind_some]
  cases h : fitB a
  · rfl
  · rw [fitB_true] at h
    rw [if_pos rfl, if_pos rfl, below_eq a h.1 h.2, Option.bind_some]

theorem rceiling_eq (a : Int) : mezzotintref01_Ceiling.f a = some (if fitB a = true then keepR (a + 65535 - (a + 65535) % 65536) else (0, 11)) := by
  unfold mezzotintref01_Ceiling.f
  rw [rfits_eq, Option.bind_some]
  cases h : fitB a
  · rfl
  · have h' := fitB_true.1 h
    rw [if_pos rfl, if_pos rfl, below_eq a h'.1 h'.2, Option.bind_some, Option.bind_some]
    by_cases c : a - a % 65536 = a
    · rw [if_pos c, show a + 65535 - (a + 65535) % 65536 = a by omega]; unfold keepR; rw [h]; rfl
    · rw [if_neg c, w64 (by omega) (by omega), keep_eq, Option.bind_some, show a + 65535 - (a + 65535) % 65536 = a - a % 65536 + 65536 by omega]; rfl

theorem rround_eq (a : Int) : mezzotintref01_Round.f a = some (if fitB a = true then keepR (a + 32768 - (a + 32768) % 65536) else (0, 11)) := by
  unfold mezzotintref01_Round.f
  rw [rfits_eq, Option.bind_some]
  cases h : fitB a
  · rfl
  · have h' := fitB_true.1 h
    rw [if_pos rfl, if_pos rfl, below_eq a h'.1 h'.2, Option.bind_some, Option.bind_some, Option.bind_some, w64 (x := a - (a - a % 65536)) (by omega) (by omega)]
    by_cases c : a - (a - a % 65536) ≥ 32768
    · rw [if_pos c, w64 (by omega) (by omega), keep_eq, Option.bind_some, show a + 32768 - (a + 32768) % 65536 = a - a % 65536 + 65536 by omega]; rfl
    · rw [if_neg c, show a + 32768 - (a + 32768) % 65536 = a - a % 65536 by omega]; unfold keepR
      rw [if_pos (fitB_true.2 (by omega))]

theorem rtruncate_eq (a : Int) : mezzotintref01_Truncate.f a = some (if fitB a = true then (if a < 0 then a + (-a) % 65536 else a - a % 65536) else 0) := by
  unfold mezzotintref01_Truncate.f
  rw [rfits_eq, Option.bind_some]
  cases h : fitB a
  · rfl
  · rw [fitB_true] at h
    rw [if_pos rfl, if_pos rfl]
    by_cases c : a < 0
    · have e : Int.tdiv a 65536 = - ((-a) / 65536) := by
        rw [← Int.tdiv_eq_ediv_of_nonneg (by omega : 0 ≤ -a), Int.neg_tdiv]; omega
      rw [if_pos c, e, w64 (x := -(-a / 65536)) (by omega) (by omega), w64 (by omega) (by omega)]
      congr 1; omega
    · rw [if_neg c, Int.tdiv_eq_ediv_of_nonneg (by omega), w64 (x := a / 65536) (by omega) (by omega), w64 (by omega) (by omega)]
      congr 1; omega

theorem same_self (a b : Int) : mezzotintlaw01_same.f a b a b = some true := by
  unfold mezzotintlaw01_same.f; simp

theorem fromInt_eq (a : Int) : mezzotintref01_FromInt.f a = fix_FromInt.f a := rfl

theorem fromInt_some (a : Int) : ∃ r, fix_FromInt.f a = some r := by
  unfold fix_FromInt.f; split
  · exact ⟨_, rfl⟩
  · split <;> exact ⟨_, rfl⟩

theorem FixWholes : mezzotintlaw01_FixWholes.Pure := by
  intro a _
  refine ⟨0 + 3, ?_⟩
  obtain ⟨r, hr⟩ := fromInt_some a
  unfold mezzotintlaw01_FixWholes.f
  simp only [ceiling_eq, rceiling_eq, round_eq, rround_eq, fromInt_eq, hr, floor_eq, rfloor_eq, truncate_eq, rtruncate_eq, answers_eq, Option.bind_some, same_self, if_true, beq_self_eq_true]

end Go.Proofs.Ytonchamkagadbaa.Pure
