/- What the numbers, the sums and the matrices of the document come to, in plain integers: no Go in this text. -/
import Derived.RowKit
namespace Go.Proofs.YtkggogbgnphmpaaDoor.Sem
open Go.RowKit

theorem w64 {x : Int} (h0 : -9223372036854775808 ≤ x) (h1 : x ≤ 9223372036854775807) : wrap64 x = x := by unfold wrap64; omega

def fitB (a : Int) : Bool := decide (-2147483648 ≤ a ∧ a ≤ 2147483647)
theorem fitB_true {a : Int} : fitB a = true ↔ -2147483648 ≤ a ∧ a ≤ 2147483647 := by unfold fitB; exact decide_eq_true_iff
theorem fitB_false {a : Int} : fitB a = false ↔ ¬ (-2147483648 ≤ a ∧ a ≤ 2147483647) := by unfold fitB; exact decide_eq_false_iff_not

/-- The quotient of numbers that are not below 0, rounded half up. -/
def rq (a b : Int) : Int := if b ≤ 2 * (a % b) then a / b + 1 else a / b
/-- The quotient, rounded half away from 0. -/
def rnd (a b : Int) : Int := if (decide (a < 0) != decide (b < 0)) = true then - rq a.natAbs b.natAbs else rq a.natAbs b.natAbs

theorem prod_bounds {a b : Int} (ha : -2147483648 ≤ a) (ha2 : a ≤ 2147483647) (hb : -2147483648 ≤ b) (hb2 : b ≤ 2147483647) :
    -4611686018427387904 ≤ a * b ∧ a * b ≤ 4611686018427387904 := by
  have h : (a * b).natAbs ≤ 2147483648 * 2147483648 := by
    rw [Int.natAbs_mul]; exact Nat.mul_le_mul (by omega) (by omega)
  omega

/-- What the quotient and the rest of two numbers are, by their signs. -/
theorem parts (a b : Int) (ha : -4611686018427387904 ≤ a) (ha2 : a ≤ 4611686018427387904) (hb1 : -2147483648 ≤ b) (hb2 : b ≤ 2147483647) (hb : b ≠ 0) :
    ∃ q r : Int, 0 ≤ q ∧ q ≤ 4611686018427387904 ∧ 0 ≤ r ∧ r < 2147483648 ∧
      ((a < 0 ∧ b < 0 ∧ a.tdiv b = q ∧ a.tmod b = -r ∧ rnd a b = if -b ≤ 2 * r then q + 1 else q) ∨
       (a < 0 ∧ 0 < b ∧ a.tdiv b = -q ∧ a.tmod b = -r ∧ rnd a b = -(if b ≤ 2 * r then q + 1 else q)) ∨
       (0 ≤ a ∧ b < 0 ∧ a.tdiv b = -q ∧ a % b = r ∧ rnd a b = -(if -b ≤ 2 * r then q + 1 else q)) ∨
       (0 ≤ a ∧ 0 < b ∧ a / b = q ∧ a % b = r ∧ rnd a b = if b ≤ 2 * r then q + 1 else q)) := by
  have hB : 0 < ((b.natAbs : Nat) : Int) := by omega
  have m1 := Int.emod_nonneg (a.natAbs : Int) (by omega : ((b.natAbs : Nat) : Int) ≠ 0)
  have m2 := Int.emod_lt_of_pos (a.natAbs : Int) hB
  have m3 := Int.ediv_nonneg (by omega : 0 ≤ (a.natAbs : Int)) (Int.le_of_lt hB)
  have m4 : (a.natAbs : Int) / (b.natAbs : Int) ≤ a.natAbs := Int.ediv_le_self _ (by omega)
  refine ⟨(a.natAbs : Int) / (b.natAbs : Int), (a.natAbs : Int) % (b.natAbs : Int), m3, by omega, m1, by omega, ?_⟩
  rw [← Int.tdiv_eq_ediv_of_nonneg (by omega : 0 ≤ (a.natAbs : Int)), ← Int.tmod_eq_emod_of_nonneg (by omega : 0 ≤ (a.natAbs : Int))]
  have hr : rnd a b = (if (decide (a < 0) != decide (b < 0)) = true then - (if (b.natAbs : Int) ≤ 2 * Int.tmod a.natAbs b.natAbs then Int.tdiv a.natAbs b.natAbs + 1 else Int.tdiv a.natAbs b.natAbs) else (if (b.natAbs : Int) ≤ 2 * Int.tmod a.natAbs b.natAbs then Int.tdiv a.natAbs b.natAbs + 1 else Int.tdiv a.natAbs b.natAbs)) := by
    rw [Int.tdiv_eq_ediv_of_nonneg (by omega : 0 ≤ (a.natAbs : Int)), Int.tmod_eq_emod_of_nonneg (by omega : 0 ≤ (a.natAbs : Int))]; rfl
  rw [hr]
  by_cases na : a < 0 <;> by_cases nb : b < 0
  · left
    rw [show (a.natAbs : Int) = -a by omega, show (b.natAbs : Int) = -b by omega, if_neg (by simp [na, nb])]
    simp only [Int.neg_tdiv, Int.tdiv_neg, Int.neg_tmod, Int.tmod_neg]
    exact ⟨na, nb, by omega, by omega, trivial⟩
  · right; left
    rw [show (a.natAbs : Int) = -a by omega, show (b.natAbs : Int) = b by omega, if_pos (by simp [na, nb])]
    simp only [Int.neg_tdiv, Int.neg_tmod]
    exact ⟨na, by omega, by omega, by omega, trivial⟩
  · right; right; left
    rw [show (a.natAbs : Int) = a by omega, show (b.natAbs : Int) = -b by omega, if_pos (by simp [na, nb])]
    rw [← Int.tmod_eq_emod_of_nonneg (by omega : 0 ≤ a)]
    simp only [Int.tdiv_neg, Int.tmod_neg]
    exact ⟨by omega, nb, by omega, by trivial, by trivial⟩
  · right; right; right
    rw [show (a.natAbs : Int) = a by omega, show (b.natAbs : Int) = b by omega, if_neg (by simp [na, nb])]
    rw [← Int.tmod_eq_emod_of_nonneg (by omega : 0 ≤ a), ← Int.tdiv_eq_ediv_of_nonneg (by omega : 0 ≤ a)]
    exact ⟨by omega, by omega, rfl, rfl, rfl⟩

/-- What a number comes to, if it fits. -/
def keepR (a : Int) : Int × Int := if fitB a = true then (a, 0) else (0, 18)
def mulR (a b : Int) : Int × Int := if (fitB a && fitB b) = true then keepR (rnd (a * b) 65536) else (0, 11)
def divR (a b : Int) : Int × Int := if (fitB a && fitB b) = true then (if b = 0 then (0, 18) else keepR (rnd (a * 65536) b)) else (0, 11)
def addR (a b : Int) : Int × Int := if (fitB a && fitB b) = true then keepR (a + b) else (0, 11)
def subR (a b : Int) : Int × Int := if (fitB a && fitB b) = true then keepR (a - b) else (0, 11)

theorem mulR_fit {a b : Int} (ha : fitB a = true) (hb : fitB b = true) : mulR a b = keepR (rnd (a * b) 65536) := by
  unfold mulR; rw [ha, hb]; rfl
theorem mulR_no {a b : Int} (h : (fitB a && fitB b) = false) : mulR a b = (0, 11) := by
  unfold mulR; rw [h]; rfl
theorem divR_fit {a b : Int} (ha : fitB a = true) (hb : fitB b = true) (h0 : b ≠ 0) : divR a b = keepR (rnd (a * 65536) b) := by
  unfold divR; rw [ha, hb, if_neg h0]; rfl
theorem divR_zero {a b : Int} (ha : fitB a = true) (hb : fitB b = true) (h0 : b = 0) : divR a b = (0, 18) := by
  unfold divR; rw [ha, hb, if_pos h0]; rfl
theorem divR_no {a b : Int} (h : (fitB a && fitB b) = false) : divR a b = (0, 11) := by
  unfold divR; rw [h]; rfl
theorem addR_fit {a b : Int} (ha : fitB a = true) (hb : fitB b = true) : addR a b = keepR (a + b) := by
  unfold addR; rw [ha, hb]; rfl
theorem addR_no {a b : Int} (h : (fitB a && fitB b) = false) : addR a b = (0, 11) := by
  unfold addR; rw [h]; rfl
theorem subR_fit {a b : Int} (ha : fitB a = true) (hb : fitB b = true) : subR a b = keepR (a - b) := by
  unfold subR; rw [ha, hb]; rfl
theorem subR_no {a b : Int} (h : (fitB a && fitB b) = false) : subR a b = (0, 11) := by
  unfold subR; rw [h]; rfl

theorem fit_zero : fitB 0 = true := by decide

/-- A result that is no error fits; one that is an error is 0. -/
def Good (r : Int × Int) : Prop := (r.2 = 0 → fitB r.1 = true) ∧ (r.2 ≠ 0 → r.1 = 0)
theorem keepR_good (a : Int) : Good (keepR a) := by
  unfold keepR Good
  cases h : fitB a
  · simp
  · simp [h]
theorem err_good (e : Int) : Good (0, e) := ⟨fun _ => fit_zero, fun _ => rfl⟩
theorem mulR_good (a b : Int) : Good (mulR a b) := by
  unfold mulR; split
  · exact keepR_good _
  · exact err_good _
theorem addR_good (a b : Int) : Good (addR a b) := by
  unfold addR; split
  · exact keepR_good _
  · exact err_good _
theorem subR_good (a b : Int) : Good (subR a b) := by
  unfold subR; split
  · exact keepR_good _
  · exact err_good _
theorem divR_good (a b : Int) : Good (divR a b) := by
  unfold divR; split
  · split
    · exact err_good _
    · exact keepR_good _
  · exact err_good _
theorem Good.fits {r : Int × Int} (h : Good r) : fitB r.1 = true := by
  by_cases c : r.2 = 0
  · exact h.1 c
  · rw [h.2 c]; exact fit_zero

/-- The sum of a list, from a number on; the first error. -/
def sumR : Int → List Int → Int × Int
  | t, [] => (t, 0)
  | t, x :: xs => if (addR t x).2 = 0 then sumR (addR t x).1 xs else (0, (addR t x).2)

theorem addR_zero (a : Int) (h : fitB a = true) : addR 0 a = (a, 0) := by
  rw [addR_fit fit_zero h]; unfold keepR; rw [show (0 : Int) + a = a by omega, if_pos h]

/-- A step that keeps the first error. -/
def tk (s : Int) (r : Int × Int) : Int × Int := (r.1, if s = 0 then r.2 else s)
def mulS (s a b : Int) : Int × Int := tk s (mulR a b)
def divS (s a b : Int) : Int × Int := tk s (divR a b)
def addS (s a b : Int) : Int × Int := tk s (addR a b)
def subS (s a b : Int) : Int × Int := tk s (subR a b)
def twoS (s a x c y : Int) (l : List Int) : Int × Int :=
  tk (mulS (mulS s a x).2 c y).2 (sumR 0 ((mulS s a x).1 :: (mulS (mulS s a x).2 c y).1 :: l))

/-- A point, if all went well. -/
def fin (s x y : Int) : Int × Int × Int := if s = 0 then (x, y, 0) else (0, 0, s)

/-- Where a point is led, as the program does it. -/
def applyA (m0 m1 m2 m3 m4 m5 x y : Int) : Int × Int × Int :=
  fin (twoS (twoS 0 m0 x m2 y [m4]).2 m1 x m3 y [m5]).2 (twoS 0 m0 x m2 y [m4]).1 (twoS (twoS 0 m0 x m2 y [m4]).2 m1 x m3 y [m5]).1
def deltaA (m0 m1 m2 m3 x y : Int) : Int × Int × Int :=
  fin (twoS (twoS 0 m0 x m2 y []).2 m1 x m3 y []).2 (twoS 0 m0 x m2 y []).1 (twoS (twoS 0 m0 x m2 y []).2 m1 x m3 y []).1

/-- One coordinate, as the document does it. -/
def lineB (s a x c y t : Int) : Int × Int :=
  addS (addS (mulS (mulS s a x).2 c y).2 (mulS s a x).1 (mulS (mulS s a x).2 c y).1).2 (addS (mulS (mulS s a x).2 c y).2 (mulS s a x).1 (mulS (mulS s a x).2 c y).1).1 t
def lineD (s a x c y : Int) : Int × Int :=
  addS (addS (mulS (mulS s a x).2 c y).2 0 (mulS s a x).1).2 (addS (mulS (mulS s a x).2 c y).2 0 (mulS s a x).1).1 (mulS (mulS s a x).2 c y).1
def applyB (m0 m1 m2 m3 m4 m5 x y : Int) : Int × Int × Int :=
  fin (lineB (lineB 0 m0 x m2 y m4).2 m1 x m3 y m5).2 (lineB 0 m0 x m2 y m4).1 (lineB (lineB 0 m0 x m2 y m4).2 m1 x m3 y m5).1
def deltaB (m0 m1 m2 m3 x y : Int) : Int × Int × Int :=
  fin (lineD (lineD 0 m0 x m2 y).2 m1 x m3 y).2 (lineD 0 m0 x m2 y).1 (lineD (lineD 0 m0 x m2 y).2 m1 x m3 y).1

theorem tk_keep {s : Int} (h : s ≠ 0) (r : Int × Int) : (tk s r).2 = s := by unfold tk; simp [h]
theorem tk_zero (r : Int × Int) : tk 0 r = r := by unfold tk; simp

theorem line_two (s a x c y t : Int) : (twoS s a x c y [t]).2 = (lineB s a x c y t).2 ∧ ((twoS s a x c y [t]).2 = 0 → (twoS s a x c y [t]).1 = (lineB s a x c y t).1) := by
  unfold twoS lineB addS
  by_cases hs : (mulS (mulS s a x).2 c y).2 = 0
  · have h1 : fitB (mulS s a x).1 = true := (mulR_good a x).fits
    have h2 : fitB (mulS (mulS s a x).2 c y).1 = true := (mulR_good c y).fits
    rw [hs]
    generalize (mulS s a x).1 = p at *
    generalize (mulS (mulS s a x).2 c y).1 = q at *
    simp only [tk_zero]
    unfold sumR sumR sumR
    rw [addR_zero p h1]
    simp only [if_true]
    by_cases e1 : (addR p q).2 = 0
    · rw [if_pos e1, e1, tk_zero]
      by_cases e2 : (addR (addR p q).1 t).2 = 0
      · rw [if_pos e2]; exact ⟨e2.symm, fun _ => rfl⟩
      · rw [if_neg e2]; exact ⟨rfl, fun h => absurd h e2⟩
    · rw [if_neg e1, tk_keep e1]; exact ⟨rfl, fun h => absurd h e1⟩
  · have e := tk_keep hs
    rw [e, e, e]
    exact ⟨rfl, fun h => absurd h hs⟩

theorem line_twoD (s a x c y : Int) : (twoS s a x c y []).2 = (lineD s a x c y).2 ∧ ((twoS s a x c y []).2 = 0 → (twoS s a x c y []).1 = (lineD s a x c y).1) := by
  unfold twoS lineD addS
  by_cases hs : (mulS (mulS s a x).2 c y).2 = 0
  · have h1 : fitB (mulS s a x).1 = true := (mulR_good a x).fits
    rw [hs]
    generalize (mulS s a x).1 = p at *
    generalize (mulS (mulS s a x).2 c y).1 = q at *
    simp only [tk_zero]
    unfold sumR sumR
    rw [addR_zero p h1]
    simp only [if_true, tk_zero]
    by_cases e2 : (addR p q).2 = 0
    · rw [if_pos e2]; exact ⟨e2.symm, fun _ => rfl⟩
    · rw [if_neg e2]; exact ⟨rfl, fun h => absurd h e2⟩
  · have e := tk_keep hs
    rw [e, e, e]
    exact ⟨rfl, fun h => absurd h hs⟩

theorem twoS_keep {s : Int} (h : s ≠ 0) (a x c y : Int) (l : List Int) : (twoS s a x c y l).2 = s := by
  have e1 : (mulS s a x).2 = s := tk_keep h _
  have e2 : (mulS s c y).2 = s := tk_keep h _
  unfold twoS; rw [e1, e2]; exact tk_keep h _

theorem apply_same (m0 m1 m2 m3 m4 m5 x y : Int) : applyA m0 m1 m2 m3 m4 m5 x y = applyB m0 m1 m2 m3 m4 m5 x y := by
  unfold applyA applyB
  have a1 := line_two 0 m0 x m2 y m4
  have a2 := line_two (twoS 0 m0 x m2 y [m4]).2 m1 x m3 y m5
  rw [← a1.1]
  unfold fin
  rw [← a2.1]
  by_cases h : (twoS (twoS 0 m0 x m2 y [m4]).2 m1 x m3 y [m5]).2 = 0
  · have h0 : (twoS 0 m0 x m2 y [m4]).2 = 0 := by
      by_cases c : (twoS 0 m0 x m2 y [m4]).2 = 0
      · exact c
      · exact absurd (by rw [twoS_keep c] at h; exact h) c
    rw [if_pos h, if_pos h, a2.2 h, a1.2 h0]
  · rw [if_neg h, if_neg h]

theorem delta_same (m0 m1 m2 m3 x y : Int) : deltaA m0 m1 m2 m3 x y = deltaB m0 m1 m2 m3 x y := by
  unfold deltaA deltaB
  have a1 := line_twoD 0 m0 x m2 y
  have a2 := line_twoD (twoS 0 m0 x m2 y []).2 m1 x m3 y
  rw [← a1.1]
  unfold fin
  rw [← a2.1]
  by_cases h : (twoS (twoS 0 m0 x m2 y []).2 m1 x m3 y []).2 = 0
  · have h0 : (twoS 0 m0 x m2 y []).2 = 0 := by
      by_cases c : (twoS 0 m0 x m2 y []).2 = 0
      · exact c
      · exact absurd (by rw [twoS_keep c] at h; exact h) c
    rw [if_pos h, if_pos h, a2.2 h, a1.2 h0]
  · rw [if_neg h, if_neg h]

/-- A matrix, and an error. -/
structure R6 where
  a : Int
  b : Int
  c : Int
  d : Int
  e : Int
  f : Int
  s : Int
def zero6 (s : Int) : R6 := ⟨0, 0, 0, 0, 0, 0, s⟩

/-- One matrix, then the other; the two ways to lead are handed in. -/
def concatR (D : Int → Int → Int → Int → Int → Int → Int × Int × Int) (A : Int → Int → Int → Int → Int → Int → Int → Int → Int × Int × Int) (a0 a1 a2 a3 a4 a5 b0 b1 b2 b3 b4 b5 : Int) : R6 :=
  if (D b0 b1 b2 b3 a0 a1).2.2 = 0 then
    (if (D b0 b1 b2 b3 a2 a3).2.2 = 0 then
      (if (A b0 b1 b2 b3 b4 b5 a4 a5).2.2 = 0 then
        ⟨(D b0 b1 b2 b3 a0 a1).1, (D b0 b1 b2 b3 a0 a1).2.1, (D b0 b1 b2 b3 a2 a3).1, (D b0 b1 b2 b3 a2 a3).2.1, (A b0 b1 b2 b3 b4 b5 a4 a5).1, (A b0 b1 b2 b3 b4 b5 a4 a5).2.1, 0⟩
       else zero6 (A b0 b1 b2 b3 b4 b5 a4 a5).2.2)
     else zero6 (D b0 b1 b2 b3 a2 a3).2.2)
  else zero6 (D b0 b1 b2 b3 a0 a1).2.2

theorem concat_same : concatR deltaA applyA = concatR deltaB applyB := by
  have e1 : deltaA = deltaB := by funext a b c d e f; exact delta_same a b c d e f
  have e2 : applyA = applyB := by funext a b c d e f g h; exact apply_same a b c d e f g h
  rw [e1, e2]

/-- a d - b c. -/
def detS (s m0 m1 m2 m3 : Int) : Int × Int := subS (mulS (mulS s m0 m3).2 m1 m2).2 (mulS s m0 m3).1 (mulS (mulS s m0 m3).2 m1 m2).1

/-- The six quotients, and the first error. -/
structure Q6 where
  a : Int × Int
  t1 : Int × Int
  b : Int × Int
  t2 : Int × Int
  c : Int × Int
  d : Int × Int
  p1 : Int × Int
  q1 : Int × Int
  t3 : Int × Int
  e : Int × Int
  p2 : Int × Int
  q2 : Int × Int
  t4 : Int × Int
  f : Int × Int

def quots (m0 m1 m2 m3 m4 m5 d : Int) : Q6 :=
  let a := divS 0 m3 d
  let t1 := subS a.2 0 m1
  let b := divS t1.2 t1.1 d
  let t2 := subS b.2 0 m2
  let c := divS t2.2 t2.1 d
  let e := divS c.2 m0 d
  let p1 := mulS e.2 m2 m5
  let q1 := mulS p1.2 m3 m4
  let t3 := subS q1.2 p1.1 q1.1
  let x := divS t3.2 t3.1 d
  let p2 := mulS x.2 m1 m4
  let q2 := mulS p2.2 m0 m5
  let t4 := subS q2.2 p2.1 q2.1
  let y := divS t4.2 t4.1 d
  ⟨a, t1, b, t2, c, e, p1, q1, t3, x, p2, q2, t4, y⟩

def fin6 (q : Q6) : R6 := if q.f.2 = 0 then ⟨q.a.1, q.b.1, q.c.1, q.d.1, q.e.1, q.f.1, 0⟩ else zero6 q.f.2

def invertR (m0 m1 m2 m3 m4 m5 : Int) : R6 :=
  if (detS 0 m0 m1 m2 m3).2 = 0 then (if (detS 0 m0 m1 m2 m3).1 = 0 then zero6 18 else fin6 (quots m0 m1 m2 m3 m4 m5 (detS 0 m0 m1 m2 m3).1))
  else zero6 (detS 0 m0 m1 m2 m3).2

/-- The whole root of a number that is not below 0. -/
def isRoot (n r : Int) : Prop := 0 ≤ r ∧ r * r ≤ n ∧ n < (r + 1) * (r + 1)

theorem isRoot_unique {n r s : Int} (h1 : isRoot n r) (h2 : isRoot n s) : r = s := by
  obtain ⟨a1, a2, a3⟩ := h1
  obtain ⟨b1, b2, b3⟩ := h2
  by_cases h : r < s
  · have := Int.mul_le_mul (by omega : r + 1 ≤ s) (by omega : r + 1 ≤ s) (by omega) (by omega)
    omega
  · by_cases h' : s < r
    · have := Int.mul_le_mul (by omega : s + 1 ≤ r) (by omega : s + 1 ≤ r) (by omega) (by omega)
      omega
    · omega

theorem sq_le {r s : Int} (h0 : 0 ≤ r) (h : r ≤ s) : r * r ≤ s * s := Int.mul_le_mul h h h0 (by omega)

theorem sq_next (r : Int) : (r + 1) * (r + 1) = r * r + 2 * r + 1 := by
  rw [Int.add_mul, Int.mul_add]; omega


theorem root_lt {a s : Int} (h : fitB a = true) (hs : isRoot (a * 65536) s) : s < 12000000 := by
  have hb := fitB_true.1 h
  by_cases c : s < 12000000
  · exact c
  · have := sq_le (by omega : (0 : Int) ≤ 12000000) (by omega : 12000000 ≤ s)
    have := hs.2.1
    omega

open Classical in
/-- The root of a number, rounded. -/
noncomputable def sqrtR (a : Int) : Int × Int :=
  if fitB a = true ∧ ¬ a < 0 then (if h : ∃ s, isRoot (a * 65536) s then (if a * 65536 - h.choose * h.choose > h.choose then h.choose + 1 else h.choose, 0) else (0, 0)) else (0, 11)

theorem sqrtR_of {a s : Int} (h : fitB a = true) (h0 : ¬ a < 0) (hs : isRoot (a * 65536) s) : sqrtR a = (if a * 65536 - s * s > s then s + 1 else s, 0) := by
  unfold sqrtR
  have hx : ∃ s, isRoot (a * 65536) s := ⟨s, hs⟩
  rw [if_pos ⟨h, h0⟩, dif_pos hx, isRoot_unique hx.choose_spec hs]
theorem sqrtR_no {a : Int} (h : ¬ (fitB a = true ∧ ¬ a < 0)) : sqrtR a = (0, 11) := by
  unfold sqrtR; rw [if_neg h]

/-- How much lines grow, as the program does it: the determinant, or what it is below 0 from 0, then the root. -/
noncomputable def scaleA (m0 m1 m2 m3 : Int) : Int × Int :=
  let d := detS 0 m0 m1 m2 m3
  let t := if d.1 < 0 then subS d.2 0 d.1 else d
  let n := tk t.2 (sqrtR (max t.1 0))
  if n.2 = 0 then (n.1, 0) else (0, n.2)
noncomputable def scaleB (m0 m1 m2 m3 : Int) : Int × Int :=
  let d := detS 0 m0 m1 m2 m3
  let t := if d.2 = 0 ∧ d.1 < 0 then subS d.2 0 d.1 else d
  if t.2 = 0 then sqrtR t.1 else (0, t.2)

theorem sqrtR_ok {a : Int} (h : fitB a = true) (h0 : ¬ a < 0) : (sqrtR a).2 = 0 := by
  unfold sqrtR; rw [if_pos ⟨h, h0⟩]; split <;> rfl

theorem tkGood {s : Int} {r : Int × Int} (h : Good r) : fitB (tk s r).1 = true := h.fits

theorem scale_tail (t : Int × Int) (ht : fitB t.1 = true) (hn : t.2 = 0 → ¬ t.1 < 0) :
    (if (tk t.2 (sqrtR (max t.1 0))).2 = 0 then ((tk t.2 (sqrtR (max t.1 0))).1, 0) else (0, (tk t.2 (sqrtR (max t.1 0))).2)) = (if t.2 = 0 then sqrtR t.1 else (0, t.2)) := by
  by_cases hz : t.2 = 0
  · have e := sqrtR_ok ht (hn hz)
    rw [hz, tk_zero, show max t.1 0 = t.1 by have := hn hz; omega, if_pos e, if_pos rfl, ← e]
  · rw [tk_keep hz, if_neg hz, if_neg hz]

theorem scale_same (m0 m1 m2 m3 : Int) : scaleA m0 m1 m2 m3 = scaleB m0 m1 m2 m3 := by
  unfold scaleA scaleB
  have hd : fitB (detS 0 m0 m1 m2 m3).1 = true := tkGood (subR_good _ _)
  generalize detS 0 m0 m1 m2 m3 = d at *
  have ht : fitB (subS d.2 0 d.1).1 = true := tkGood (subR_good _ _)
  dsimp only
  by_cases hn : d.1 < 0
  · by_cases hs : d.2 = 0
    · have eA : (if d.1 < 0 then subS d.2 0 d.1 else d) = subS d.2 0 d.1 := if_pos hn
      have eB : (if d.2 = 0 ∧ d.1 < 0 then subS d.2 0 d.1 else d) = subS d.2 0 d.1 := if_pos ⟨hs, hn⟩
      rw [eA, eB]
      refine scale_tail _ ht ?_
      rw [hs]; unfold subS; rw [tk_zero, subR_fit fit_zero hd]; unfold keepR; split
      · simp; omega
      · simp
    · have eA : (if d.1 < 0 then subS d.2 0 d.1 else d) = subS d.2 0 d.1 := if_pos hn
      have eB : (if d.2 = 0 ∧ d.1 < 0 then subS d.2 0 d.1 else d) = d := if_neg (fun h => hs h.1)
      have e : (subS d.2 0 d.1).2 = d.2 := tk_keep hs _
      rw [eA, eB]
      refine (scale_tail _ ht (fun h => absurd (e ▸ h) hs)).trans ?_
      rw [e, if_neg hs, if_neg hs]
  · have eA : (if d.1 < 0 then subS d.2 0 d.1 else d) = d := if_neg hn
    have eB : (if d.2 = 0 ∧ d.1 < 0 then subS d.2 0 d.1 else d) = d := if_neg (fun h => hn h.2)
    rw [eA, eB]
    exact scale_tail d hd (fun _ => hn)

end Go.Proofs.YtkggogbgnphmpaaDoor.Sem
