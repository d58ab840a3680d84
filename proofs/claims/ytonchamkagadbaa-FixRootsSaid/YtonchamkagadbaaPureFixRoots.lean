/- For every number the root of the program is that of the document, and its square is as near as that of any other number. No condition. -/
import Derived.OpenShut
import Derived.Test.YtonchamkagadbaaPFixRootsx2
namespace Go.Proofs.Ytonchamkagadbaa.Pure
open Go.RowKit Go.Proofs.Ytonchamkagadbaa.PFixRoots Go.Proofs.YtonchamkagadbaaW.PrintWords Go.Proofs.YtonchamkagadbaaW.PrintLast

theorem w64 {x : Int} (h0 : -9223372036854775808 ≤ x) (h1 : x ≤ 9223372036854775807) : wrap64 x = x := by unfold wrap64; omega

def fitB (a : Int) : Bool := decide (-2147483648 ≤ a ∧ a ≤ 2147483647)
theorem fitB_true {a : Int} : fitB a = true ↔ -2147483648 ≤ a ∧ a ≤ 2147483647 := by unfold fitB; exact decide_eq_true_iff
theorem fitB_false {a : Int} : fitB a = false ↔ ¬ (-2147483648 ≤ a ∧ a ≤ 2147483647) := by unfold fitB; exact decide_eq_false_iff_not

theorem fits_eq (a : Int) : fix_Fits.f a = some (fitB a) := by
  unfold fix_Fits.f fitB
  by_cases h : a ≥ -2147483648
  · rw [if_pos h]; congr 1; apply decide_eq_decide.2; omega
  · rw [if_neg h]; congr 1; symm; apply decide_eq_false; omega

theorem within_eq (a : Int) : fix_within.f a = some (if fitB a = true then (a, 0) else (0, 18)) := by
  unfold fix_within.f; rw [fits_eq]; simp only [Option.bind_some]; split <;> rfl

theorem all_eq (k : Nat) (a b : Int) : fix_all.f (k + 3) [a, b] = some (fitB a && fitB b) := by
  unfold fix_all.f
  have e0 : rd [a, b] 0 = a := rfl
  have e1 : rd [a, b] 1 = b := rfl
  have s1 : wrap64 1 = 1 := w64 (by omega) (by omega)
  have s2 : wrap64 2 = 2 := w64 (by omega) (by omega)
  simp only [fix_all.l0, List.length_cons, List.length_nil]
  simp [fits_eq, s1, s2, e0, e1]
  cases fitB a <;> cases fitB b <;> rfl

/-- The quotient of numbers that are not below 0, rounded half up. -/
def rq (a b : Int) : Int := if b ≤ 2 * (a % b) then a / b + 1 else a / b
/-- The quotient, rounded half away from 0. -/
def rnd (a b : Int) : Int := if (decide (a < 0) != decide (b < 0)) = true then - rq a.natAbs b.natAbs else rq a.natAbs b.natAbs

theorem rq_bounds (a b : Int) (ha : 0 ≤ a) (hb : 0 < b) : 0 ≤ rq a b ∧ rq a b ≤ a + 1 := by
  have h1 := Int.ediv_nonneg ha (Int.le_of_lt hb)
  have h2 : a / b ≤ a := Int.ediv_le_self _ ha
  unfold rq; split <;> omega

theorem over_pos (k : Nat) (a b : Int) (hb : 0 < b) (hb2 : b ≤ 2147483648) (ha : -4611686018427387904 ≤ a) (ha2 : a ≤ 4611686018427387904) :
    fix_over.j0 (k + 1) a b = some (rnd a b) := by
  have hb' : ((b.natAbs : Nat) : Int) = b := by omega
  have hbn : ¬ b < 0 := by omega
  simp only [fix_over.j0]
  rw [if_neg (by omega)]
  unfold rnd
  rw [hb']
  by_cases hn : a < 0
  · have ha' : ((a.natAbs : Nat) : Int) = -a := by omega
    have hs : (decide (a < 0) != decide (b < 0)) = true := by simp [hn, hbn]
    rw [ha', if_pos hs]
    have ed : Int.tdiv a b = -((-a) / b) := by
      rw [← Int.tdiv_eq_ediv_of_nonneg (by omega : 0 ≤ -a), Int.neg_tdiv]; omega
    have em : Int.tmod a b = -((-a) % b) := by
      rw [← Int.tmod_eq_emod_of_nonneg (by omega : 0 ≤ -a), Int.neg_tmod]; omega
    rw [ed, em]
    have h1 := Int.emod_nonneg (-a) (by omega : b ≠ 0)
    have h2 := Int.emod_lt_of_pos (-a) hb
    have h3 := Int.ediv_nonneg (by omega : 0 ≤ -a) (Int.le_of_lt hb)
    have h4 : (-a) / b ≤ -a := Int.ediv_le_self _ (by omega)
    unfold rq
    generalize (-a) % b = r at *
    generalize (-a) / b = q at *
    rw [w64 (x := 2 * -r) (by omega) (by omega), if_neg (by omega : ¬ 2 * -r ≥ b), w64 (x := -2 * -r) (by omega) (by omega), w64 (x := -q) (by omega) (by omega), w64 (x := -q - 1) (by omega) (by omega)]
    by_cases hr : b ≤ 2 * r
    · rw [if_pos (by omega : -2 * -r ≥ b), if_pos hr]; congr 1; omega
    · rw [if_neg (by omega : ¬ -2 * -r ≥ b), if_neg hr]
  · have ha' : ((a.natAbs : Nat) : Int) = a := by omega
    have hs : ¬ (decide (a < 0) != decide (b < 0)) = true := by simp [hn, hbn]
    rw [ha', if_neg hs]
    have ed : Int.tdiv a b = a / b := Int.tdiv_eq_ediv_of_nonneg (by omega)
    have em : Int.tmod a b = a % b := Int.tmod_eq_emod_of_nonneg (by omega)
    rw [ed, em]
    have h1 := Int.emod_nonneg a (by omega : b ≠ 0)
    have h2 := Int.emod_lt_of_pos a hb
    have h3 := Int.ediv_nonneg (by omega : 0 ≤ a) (Int.le_of_lt hb)
    have h4 : a / b ≤ a := Int.ediv_le_self _ (by omega)
    unfold rq
    generalize a % b = r at *
    generalize a / b = q at *
    rw [w64 (x := 2 * r) (by omega) (by omega), w64 (x := -2 * r) (by omega) (by omega), w64 (x := q) (by omega) (by omega), w64 (x := q + 1) (by omega) (by omega)]
    by_cases hr : b ≤ 2 * r
    · rw [if_pos (by omega : 2 * r ≥ b), if_pos hr]
    · rw [if_neg (by omega : ¬ 2 * r ≥ b), if_neg (by omega : ¬ -2 * r ≥ b), if_neg hr]

theorem over_eq (k : Nat) (a b : Int) (hb : b ≠ 0) (hb1 : -2147483648 ≤ b) (hb2 : b ≤ 2147483647) (ha : -4611686018427387904 ≤ a) (ha2 : a ≤ 4611686018427387904) :
    fix_over.f (k + 1) a b = some (rnd a b) := by
  unfold fix_over.f
  by_cases hn : b < 0
  · rw [if_pos hn, w64 (by omega) (by omega), w64 (by omega) (by omega), over_pos k (-a) (-b) (by omega) (by omega) (by omega) (by omega)]
    congr 1
    unfold rnd
    rw [Int.natAbs_neg, Int.natAbs_neg]
    by_cases h0 : a = 0
    · subst h0
      have : rq (Int.natAbs 0) b.natAbs = 0 := by
        unfold rq; rw [show ((Int.natAbs 0 : Nat) : Int) = 0 from rfl, Int.zero_emod, Int.zero_ediv, if_neg (by omega)]
      rw [this]; simp
    · have e1 : decide (-a < 0) = !decide (a < 0) := by
        rw [← decide_not]; apply decide_eq_decide.2; omega
      have e2 : decide (-b < 0) = !decide (b < 0) := by
        rw [← decide_not]; apply decide_eq_decide.2; omega
      rw [e1, e2]; cases decide (a < 0) <;> cases decide (b < 0) <;> rfl
  · rw [if_neg hn, over_pos k a b (by omega) (by omega) ha ha2]

theorem prod_bounds {a b : Int} (ha : -2147483648 ≤ a) (ha2 : a ≤ 2147483647) (hb : -2147483648 ≤ b) (hb2 : b ≤ 2147483647) :
    -4611686018427387904 ≤ a * b ∧ a * b ≤ 4611686018427387904 := by
  have h : (a * b).natAbs ≤ 2147483648 * 2147483648 := by
    rw [Int.natAbs_mul]; exact Nat.mul_le_mul (by omega) (by omega)
  omega

/-- What a product comes to. -/
def mulR (a b : Int) : Int × Int := if (fitB a && fitB b) = true then (if fitB (rnd (a * b) 65536) = true then (rnd (a * b) 65536, 0) else (0, 18)) else (0, 11)
/-- What a quotient comes to. -/
def divR (a b : Int) : Int × Int := if (fitB a && fitB b) = true then (if b = 0 then (0, 18) else if fitB (rnd (a * 65536) b) = true then (rnd (a * 65536) b, 0) else (0, 18)) else (0, 11)
/-- What a sum comes to. -/
def addR (a b : Int) : Int × Int := if (fitB a && fitB b) = true then (if fitB (a + b) = true then (a + b, 0) else (0, 18)) else (0, 11)
/-- What a difference comes to. -/
def subR (a b : Int) : Int × Int := if (fitB a && fitB b) = true then (if fitB (a - b) = true then (a - b, 0) else (0, 18)) else (0, 11)

theorem mul_eq (k : Nat) (a b : Int) : fix_Mul.f (k + 3) a b = some (mulR a b) := by
  unfold fix_Mul.f mulR
  rw [all_eq]; simp only [Option.bind_some]
  by_cases h : (fitB a && fitB b) = true
  · rw [if_pos h, if_pos h]
    rw [Bool.and_eq_true, fitB_true, fitB_true] at h
    have hp := prod_bounds h.1.1 h.1.2 h.2.1 h.2.2
    rw [w64 (by omega) (by omega), over_eq (k + 2) _ _ (by omega) (by omega) (by omega) hp.1 hp.2]
    simp only [Option.bind_some, within_eq]
  · rw [if_neg h, if_neg h]

theorem answers_eq (k : Nat) : mezzotintlaw01_answers.f (k + 3) = some true := by
  unfold mezzotintlaw01_answers.f
  rw [mul_eq, show mulR 32768 196608 = (98304, 0) by decide]; rfl

theorem rfits_eq (a : Int) : mezzotintref01_Fits.f a = some (fitB a) := by
  unfold mezzotintref01_Fits.f fitB
  by_cases h : a ≥ -2147483648
  · rw [if_pos h]; congr 1; apply decide_eq_decide.2; omega
  · rw [if_neg h]; congr 1; symm; apply decide_eq_false; omega

/-- The whole root of a number that is not below 0. -/
def isRoot (n r : Int) : Prop := 0 ≤ r ∧ r * r ≤ n ∧ n < (r + 1) * (r + 1)

theorem isRoot_unique {n r s : Int} (h1 : isRoot n r) (h2 : isRoot n s) : r = s := by
  obtain ⟨a1, a2, a3⟩ := h1
  obtain ⟨b1, b2, b3⟩ := h2
  by_cases h : r < s
  · have := Int.mul_le_mul (by omega : r + 1 ≤ s) (by omega : r + 1 ≤ s) (by omega) (by omega)
    omega
  · by_cases h' : s < r
    · have := Int.mul_le_mul (by omega : s + 1 ≤ r) (by omega : s + 1 ≤ r) (by omega) (by omega)
      omega
    · omega

theorem sq_le {r s : Int} (h0 : 0 ≤ r) (h : r ≤ s) : r * r ≤ s * s := Int.mul_le_mul h h h0 (by omega)

theorem sq_next (r : Int) : (r + 1) * (r + 1) = r * r + 2 * r + 1 := by
  rw [Int.add_mul, Int.mul_add]; omega

/-- The root of the program: a bit a round. -/
theorem sqrt_l0 (n : Int) (hn : 0 ≤ n) (hn2 : n < 140737488355328) : ∀ (d : Nat), d ≤ 25 → ∀ (k : Nat) (r b : Int), d + 1 ≤ k → (b = 2 ^ d / 2) → 0 ≤ r → r ≤ 33554432 - 2 ^ d → r * r ≤ n → n < (r + 2 ^ d) * (r + 2 ^ d) →
    ∃ s, isRoot n s ∧ fix_Sqrt.l0 k n r b = some (if n - s * s > s then s + 1 else s, 0) := by
  intro d
  induction d with
  | zero =>
    intro _ k r b hk hb h0 h1 h2 h3
    obtain ⟨k, rfl⟩ : ∃ m, k = m + 1 := ⟨k - 1, by omega⟩
    have hb' : b = 0 := by simpa using hb
    subst hb'
    have h1' : r ≤ 33554431 := by simpa using h1
    have h3' : n < (r + 1) * (r + 1) := by simpa using h3
    have hs : r * r ≤ 140737488355328 := by omega
    have hr0 : 0 ≤ r * r := Int.mul_nonneg h0 h0
    refine ⟨r, ⟨h0, h2, h3'⟩, ?_⟩
    simp only [fix_Sqrt.l0]
    rw [if_neg (by omega), w64 (x := r * r) (by omega) (by omega), w64 (x := n - r * r) (by omega) (by omega), w64 (x := r + 1) (by omega) (by omega)]
    split <;> rfl
  | succ d ih =>
    intro hd k r b hk hb h0 h1 h2 h3
    obtain ⟨k, rfl⟩ : ∃ m, k = m + 1 := ⟨k - 1, by omega⟩
    have e : (2 : Int) ^ (d + 1) = 2 * 2 ^ d := by rw [Int.pow_succ, Int.mul_comm]
    have hp : (0 : Int) < 2 ^ d := Int.pow_pos (by decide)
    have hb' : b = 2 ^ d := by rw [hb, e]; omega
    have hb2 : b / 2 = 2 ^ d / 2 := by rw [hb']
    rw [e] at h1 h3
    clear hb e
    generalize hP : (2 : Int) ^ d = P at *
    subst hb'
    have hsq : (r + b) * (r + b) ≤ 33554432 * 33554432 := sq_le (by omega) (by omega)
    have hsq0 : 0 ≤ (r + b) * (r + b) := Int.mul_nonneg (by omega) (by omega)
    simp only [fix_Sqrt.l0]
    rw [if_pos (by omega), w64 (x := r + b) (by omega) (by omega), w64 (x := (r + b) * (r + b)) (by omega) (by omega)]
    by_cases c : (r + b) * (r + b) ≤ n
    · rw [if_pos c]
      exact ih (by omega) k (r + b) (b / 2) (by omega) rfl (by omega) (by omega) c (by rw [show r + b + b = r + 2 * b by omega]; exact h3)
    · rw [if_neg c]
      exact ih (by omega) k r (b / 2) (by omega) rfl (by omega) (by omega) h2 (by omega)

/-- The document's root: by halving. -/
theorem rsqrt_l0 (n : Int) (hn : 0 ≤ n) (hn2 : n < 140737488355328) : ∀ (d : Nat) (k : Nat) (lo hi : Int), d + 1 ≤ k → 0 ≤ lo → lo ≤ hi → hi ≤ 12000000 → hi - lo < 2 ^ d → lo * lo ≤ n → n < (hi + 1) * (hi + 1) →
    ∃ s, isRoot n s ∧ mezzotintref01_Sqrt.l0 k n lo hi = some (if n - s * s > s then s + 1 else s, 0) := by
  intro d
  induction d with
  | zero =>
    intro k lo hi hk h0 h1 h2 h3 h4 h5
    obtain ⟨k, rfl⟩ : ∃ m, k = m + 1 := ⟨k - 1, by omega⟩
    have h3' : hi - lo < 1 := by simpa using h3
    obtain rfl : lo = hi := by omega
    have hs0 : 0 ≤ lo * lo := Int.mul_nonneg h0 h0
    have e := sq_next lo
    refine ⟨lo, ⟨h0, h4, h5⟩, ?_⟩
    simp only [mezzotintref01_Sqrt.l0]
    rw [if_neg (by omega), w64 (x := lo * lo) (by omega) (by omega), w64 (x := n - lo * lo) (by omega) (by omega), w64 (x := lo + 1) (by omega) (by omega), e,
      w64 (x := lo * lo + 2 * lo + 1) (by omega) (by omega), w64 (x := lo * lo + 2 * lo + 1 - n) (by omega) (by omega)]
    by_cases c : n - lo * lo > lo
    · rw [if_pos c, if_pos (by omega)]
    · rw [if_neg c, if_neg (by omega)]
  | succ d ih =>
    intro k lo hi hk h0 h1 h2 h3 h4 h5
    obtain ⟨k, rfl⟩ : ∃ m, k = m + 1 := ⟨k - 1, by omega⟩
    by_cases hlt : lo < hi
    · have e : (2 : Int) ^ (d + 1) = 2 * 2 ^ d := by rw [Int.pow_succ, Int.mul_comm]
      rw [e] at h3
      generalize (2 : Int) ^ d = P at *
      simp only [mezzotintref01_Sqrt.l0]
      rw [if_pos hlt, w64 (x := lo + hi) (by omega) (by omega), w64 (x := lo + hi + 1) (by omega) (by omega), Int.tdiv_eq_ediv_of_nonneg (by omega), w64 (x := (lo + hi + 1) / 2) (by omega) (by omega)]
      have hm : ∃ m, (lo + hi + 1) / 2 = m ∧ lo + hi ≤ 2 * m ∧ 2 * m ≤ lo + hi + 1 := ⟨_, rfl, by omega, by omega⟩
      obtain ⟨m, e2, m1, m2⟩ := hm
      rw [e2]
      have hsq : m * m ≤ 12000000 * 12000000 := sq_le (by omega) (by omega)
      have hsq0 : 0 ≤ m * m := Int.mul_nonneg (by omega) (by omega)
      rw [w64 (x := m * m) (by omega) (by omega), w64 (x := m - 1) (by omega) (by omega)]
      by_cases c : m * m ≤ n
      · rw [if_pos c]
        exact ih k m hi (by omega) (by omega) (by omega) h2 (by omega) c h5
      · rw [if_neg c]
        exact ih k lo (m - 1) (by omega) h0 (by omega) (by omega) (by omega) h4 (by rw [show m - 1 + 1 = m by omega]; omega)
    · obtain rfl : lo = hi := by omega
      have hs0 : 0 ≤ lo * lo := Int.mul_nonneg h0 h0
      have e := sq_next lo
      refine ⟨lo, ⟨h0, h4, h5⟩, ?_⟩
      simp only [mezzotintref01_Sqrt.l0]
      rw [if_neg (by omega), w64 (x := lo * lo) (by omega) (by omega), w64 (x := n - lo * lo) (by omega) (by omega), w64 (x := lo + 1) (by omega) (by omega), e,
        w64 (x := lo * lo + 2 * lo + 1) (by omega) (by omega), w64 (x := lo * lo + 2 * lo + 1 - n) (by omega) (by omega)]
      by_cases c : n - lo * lo > lo
      · rw [if_pos c, if_pos (by omega)]
      · rw [if_neg c, if_neg (by omega)]

theorem same_self (a b : Int) : mezzotintlaw01_same.f a b a b = some true := by
  unfold mezzotintlaw01_same.f; simp

theorem roots (a : Int) (h : fitB a = true) (h0 : ¬ a < 0) : ∃ s, isRoot (a * 65536) s ∧ s < 12000000 ∧
    fix_Sqrt.f 40 a = some (if a * 65536 - s * s > s then s + 1 else s, 0) ∧ mezzotintref01_Sqrt.f 40 a = some (if a * 65536 - s * s > s then s + 1 else s, 0) := by
  have hb := fitB_true.1 h
  obtain ⟨s, hs, e1⟩ := sqrt_l0 (a * 65536) (by omega) (by omega) 25 (by omega) 39 0 16777216 (by omega) (by decide) (by omega) (by decide) (by omega) (by
    have : (0 + (2 : Int) ^ 25) * (0 + 2 ^ 25) = 1125899906842624 := by decide
    rw [this]; omega)
  obtain ⟨s', hs', e2⟩ := rsqrt_l0 (a * 65536) (by omega) (by omega) 24 39 0 12000000 (by omega) (by omega) (by omega) (by omega) (by decide) (by omega) (by omega)
  obtain rfl := isRoot_unique hs hs'
  refine ⟨s, hs, ?_, ?_, ?_⟩
  · by_cases c : s < 12000000
    · exact c
    · have := sq_le (by omega : (0 : Int) ≤ 12000000) (by omega : 12000000 ≤ s)
      have := hs.2.1
      omega
  · unfold fix_Sqrt.f
    rw [fits_eq, Option.bind_some, h, if_pos rfl]
    simp only [fix_Sqrt.j0]
    rw [decide_eq_false h0, if_neg (by simp), w64 (by omega) (by omega), e1]
  · unfold mezzotintref01_Sqrt.f
    rw [rfits_eq, Option.bind_some, h, if_pos rfl]
    simp only [mezzotintref01_Sqrt.j0]
    rw [decide_eq_false h0, if_neg (by simp), w64 (by omega) (by omega), e2]

theorem none_of (a : Int) (h : fitB a = false ∨ a < 0) : fix_Sqrt.f 40 a = some (0, 11) ∧ mezzotintref01_Sqrt.f 40 a = some (0, 11) := by
  constructor
  · unfold fix_Sqrt.f
    rw [fits_eq, Option.bind_some]
    rcases h with h | h
    · rw [h, if_neg (by simp)]; simp only [fix_Sqrt.j0, if_true]
    · cases hf : fitB a
      · rw [if_neg (by simp)]; simp only [fix_Sqrt.j0, if_true]
      · rw [if_pos rfl, decide_eq_true h]; simp only [fix_Sqrt.j0, if_true]
  · unfold mezzotintref01_Sqrt.f
    rw [rfits_eq, Option.bind_some]
    rcases h with h | h
    · rw [h, if_neg (by simp)]; simp only [mezzotintref01_Sqrt.j0, if_true]
    · cases hf : fitB a
      · rw [if_neg (by simp)]; simp only [mezzotintref01_Sqrt.j0, if_true]
      · rw [if_pos rfl, decide_eq_true h]; simp only [mezzotintref01_Sqrt.j0, if_true]

theorem sq_odd (r : Int) : (2 * r + 1) * (2 * r + 1) = 4 * (r * r) + 4 * r + 1 := by
  rw [sq_next, Int.mul_comm 2 r, Int.mul_comm (r * 2) (r * 2), ← Int.mul_assoc, Int.mul_comm (r * 2) r, ← Int.mul_assoc]; omega

theorem FixRoots : mezzotintlaw01_FixRoots.Pure := by
  intro a _
  refine ⟨40, ?_⟩
  unfold mezzotintlaw01_FixRoots.f
  by_cases h : fitB a = false ∨ a < 0
  · obtain ⟨e1, e2⟩ := none_of a h
    rw [e1, e2, Option.bind_some, Option.bind_some, show (40 : Nat) = 37 + 3 from rfl, answers_eq, Option.bind_some, if_pos rfl, same_self, Option.bind_some]
    simp only [mezzotintlaw01_FixRoots.j0, rfits_eq, Option.bind_some]
    rcases h with h | h
    · simp [h]
    · cases hf : fitB a <;> simp [h]
  · have hf : fitB a = true := by
      cases hf : fitB a
      · exact absurd (Or.inl hf) h
      · rfl
    have h0 : ¬ a < 0 := fun c => h (Or.inr c)
    obtain ⟨s, ⟨s0, s1, s2⟩, s3, e1, e2⟩ := roots a hf h0
    have hb := fitB_true.1 hf
    rw [e1, e2, Option.bind_some, Option.bind_some, show (40 : Nat) = 37 + 3 from rfl, answers_eq, Option.bind_some, if_pos rfl, same_self, Option.bind_some]
    simp only [mezzotintlaw01_FixRoots.j0]
    rw [if_neg (by simp), if_pos trivial]
    clear e1 e2 h
    have n1 := sq_next s
    generalize hr : (if a * 65536 - s * s > s then s + 1 else s) = r
    have hss : 0 ≤ s * s := Int.mul_nonneg s0 s0
    have key : 0 ≤ r ∧ r ≤ 12000000 ∧ (r = 0 ∨ 4 * (r * r) - 4 * r + 1 ≤ 4 * a * 65536) ∧ 4 * (r * r) + 4 * r + 1 > 4 * a * 65536 ∧ 0 ≤ r * r ∧ r * r ≤ 144000000000000 := by
      have hrr : r * r ≤ 144000000000000 ∨ ¬ (0 ≤ r ∧ r ≤ 12000000) := by
        by_cases c : 0 ≤ r ∧ r ≤ 12000000
        · left; exact sq_le c.1 c.2
        · right; exact c
      by_cases c : a * 65536 - s * s > s
      · rw [if_pos c] at hr
        subst hr
        rw [n1] at hrr s2 ⊢
        omega
      · rw [if_neg c] at hr
        subst hr
        omega
    obtain ⟨k0, k1, k2, k3, k4, k5⟩ := key
    have o1 := sq_odd r
    have o2 : (2 * r - 1) * (2 * r - 1) = 4 * (r * r) - 4 * r + 1 := by
      have := sq_odd (r - 1)
      have n2 := sq_next (r - 1)
      rw [show r - 1 + 1 = r by omega] at n2
      rw [show 2 * (r - 1) + 1 = 2 * r - 1 by omega] at this
      rw [this]; omega
    rw [w64 (x := 2 * r) (by omega) (by omega), w64 (x := 2 * r + 1) (by omega) (by omega), w64 (x := 2 * r - 1) (by omega) (by omega), o1, o2,
      w64 (x := 4 * (r * r) + 4 * r + 1) (by omega) (by omega), w64 (x := 4 * (r * r) - 4 * r + 1) (by omega) (by omega), w64 (x := 4 * a) (by omega) (by omega), w64 (x := 4 * a * 65536) (by omega) (by omega),
      if_pos (by omega : r ≥ 0)]
    rw [decide_eq_true k3]
    by_cases c : r = 0
    · rw [if_pos c]
    · rw [if_neg c, if_pos (by omega)]

end Go.Proofs.Ytonchamkagadbaa.Pure
