import Derived.RowKit
namespace Go.Proofs.YtmbnlklinmmkdaaDoor.Sem
open Go.RowKit
theorem w64 {x : Int} (h0 : -9223372036854775808 ≤ x) (h1 : x ≤ 9223372036854775807) : wrap64 x = x := by unfold wrap64; omega
def fitB (a : Int) : Bool := decide (-2147483648 ≤ a ∧ a ≤ 2147483647)
theorem fitB_true {a : Int} : fitB a = true ↔ -2147483648 ≤ a ∧ a ≤ 2147483647 := by unfold fitB; exact decide_eq_true_iff
def rq (a b : Int) : Int := if b ≤ 2 * (a % b) then a / b + 1 else a / b
def rnd (a b : Int) : Int := if (decide (a < 0) != decide (b < 0)) = true then - rq a.natAbs b.natAbs else rq a.natAbs b.natAbs
theorem prod_bounds {a b : Int} (ha : -2147483648 ≤ a) (ha2 : a ≤ 2147483647) (hb : -2147483648 ≤ b) (hb2 : b ≤ 2147483647) :
    -4611686018427387904 ≤ a * b ∧ a * b ≤ 4611686018427387904 := by
  have h : (a * b).natAbs ≤ 2147483648 * 2147483648 := by
    rw [Int.natAbs_mul]; exact Nat.mul_le_mul (by omega) (by omega)
  omega
theorem parts (a b : Int) (ha : -4611686018427387904 ≤ a) (ha2 : a ≤ 4611686018427387904) (hb1 : -2147483648 ≤ b) (hb2 : b ≤ 2147483647) (hb : b ≠ 0) :
    ∃ q r : Int, 0 ≤ q ∧ q ≤ 4611686018427387904 ∧ 0 ≤ r ∧ r < 2147483648 ∧
      ((a < 0 ∧ b < 0 ∧ a.tdiv b = q ∧ a.tmod b = -r ∧ rnd a b = if -b ≤ 2 * r then q + 1 else q) ∨
       (a < 0 ∧ 0 < b ∧ a.tdiv b = -q ∧ a.tmod b = -r ∧ rnd a b = -(if b ≤ 2 * r then q + 1 else q)) ∨
       (0 ≤ a ∧ b < 0 ∧ a.tdiv b = -q ∧ a % b = r ∧ rnd a b = -(if -b ≤ 2 * r then q + 1 else q)) ∨
       (0 ≤ a ∧ 0 < b ∧ a / b = q ∧ a % b = r ∧ rnd a b = if b ≤ 2 * r then q + 1 else q)) := by
  have hB : 0 < ((b.natAbs : Nat) : Int) := by omega
  have m1 := Int.emod_nonneg (a.natAbs : Int) (by omega : ((b.natAbs : Nat) : Int) ≠ 0)
  have m2 := Int.emod_lt_of_pos (a.natAbs : Int) hB
  have m3 := Int.ediv_nonneg (by omega : 0 ≤ (a.natAbs : Int)) (Int.le_of_lt hB)
  have m4 : (a.natAbs : Int) / (b.natAbs : Int) ≤ a.natAbs := Int.ediv_le_self _ (by omega)
  refine ⟨(a.natAbs : Int) / (b.natAbs : Int), (a.natAbs : Int) % (b.natAbs : Int), m3, by omega, m1, by omega, ?_⟩
  rw [← Int.tdiv_eq_ediv_of_nonneg (by omega : 0 ≤ (a.natAbs : Int)), ← Int.tmod_eq_emod_of_nonneg (by omega : 0 ≤ (a.natAbs : Int))]
  have hr : rnd a b = (if (decide (a < 0) != decide (b < 0)) = true then - (if (b.natAbs : Int) ≤ 2 * Int.tmod a.natAbs b.natAbs then Int.tdiv a.natAbs b.natAbs + 1 else Int.tdiv a.natAbs b.natAbs) else (if (b.natAbs : Int) ≤ 2 * Int.tmod a.natAbs b.natAbs then Int.tdiv a.natAbs b.natAbs + 1 else Int.tdiv a.natAbs b.natAbs)) := by
    rw [Int.tdiv_eq_ediv_of_nonneg (by omega : 0 ≤ (a.natAbs : Int)), Int.tmod_eq_emod_of_nonneg (by omega : 0 ≤ (a.natAbs : Int))]; rfl
  rw [hr]
  by_cases na : a < 0 <;> by_cases nb : b < 0
  · left
    rw [show (a.natAbs : Int) = -a by omega, show (b.natAbs : Int) = -b by omega, if_neg (by simp [na, nb])]
    simp only [Int.neg_tdiv, Int.tdiv_neg, Int.neg_tmod, Int.tmod_neg]
    exact ⟨na, nb, by omega, by omega, trivial⟩
  · right; left
    rw [show (a.natAbs : Int) = -a by omega, show (b.natAbs : Int) = b by omega, if_pos (by simp [na, nb])]
    simp only [Int.neg_tdiv, Int.neg_tmod]
    exact ⟨na, by omega, by omega, by omega, trivial⟩
  · right; right; left
    rw [show (a.natAbs : Int) = a by omega, show (b.natAbs : Int) = -b by omega, if_pos (by simp [na, nb])]
    rw [← Int.tmod_eq_emod_of_nonneg (by omega : 0 ≤ a)]
    simp only [Int.tdiv_neg, Int.tmod_neg]
    exact ⟨by omega, nb, by omega, by trivial, by trivial⟩
  · right; right; right
    rw [show (a.natAbs : Int) = a by omega, show (b.natAbs : Int) = b by omega, if_neg (by simp [na, nb])]
    rw [← Int.tmod_eq_emod_of_nonneg (by omega : 0 ≤ a), ← Int.tdiv_eq_ediv_of_nonneg (by omega : 0 ≤ a)]
    exact ⟨by omega, by omega, rfl, rfl, rfl⟩
def keepR (a : Int) : Int × Int := if fitB a = true then (a, 0) else (0, 18)
def mulR (a b : Int) : Int × Int := if (fitB a && fitB b) = true then keepR (rnd (a * b) 65536) else (0, 11)
def divR (a b : Int) : Int × Int := if (fitB a && fitB b) = true then (if b = 0 then (0, 18) else keepR (rnd (a * 65536) b)) else (0, 11)
def addR (a b : Int) : Int × Int := if (fitB a && fitB b) = true then keepR (a + b) else (0, 11)
def subR (a b : Int) : Int × Int := if (fitB a && fitB b) = true then keepR (a - b) else (0, 11)
theorem mulR_fit {a b : Int} (ha : fitB a = true) (hb : fitB b = true) : mulR a b = keepR (rnd (a * b) 65536) := by
  unfold mulR; rw [ha, hb]; rfl
theorem mulR_no {a b : Int} (h : (fitB a && fitB b) = false) : mulR a b = (0, 11) := by
  unfold mulR; rw [h]; rfl
theorem divR_fit {a b : Int} (ha : fitB a = true) (hb : fitB b = true) (h0 : b ≠ 0) : divR a b = keepR (rnd (a * 65536) b) := by
  unfold divR; rw [ha, hb, if_neg h0]; rfl
theorem divR_zero {a b : Int} (ha : fitB a = true) (hb : fitB b = true) (h0 : b = 0) : divR a b = (0, 18) := by
  unfold divR; rw [ha, hb, if_pos h0]; rfl
theorem divR_no {a b : Int} (h : (fitB a && fitB b) = false) : divR a b = (0, 11) := by
  unfold divR; rw [h]; rfl
structure R6 where
  a : Int
  b : Int
  c : Int
  d : Int
  e : Int
  f : Int
  s : Int
def zero6 (s : Int) : R6 := ⟨0, 0, 0, 0, 0, 0, s⟩
def isRoot (n r : Int) : Prop := 0 ≤ r ∧ r * r ≤ n ∧ n < (r + 1) * (r + 1)
theorem isRoot_unique {n r s : Int} (h1 : isRoot n r) (h2 : isRoot n s) : r = s := by
  obtain ⟨a1, a2, a3⟩ := h1
  obtain ⟨b1, b2, b3⟩ := h2
  by_cases h : r < s
  · have := Int.mul_le_mul (by omega : r + 1 ≤ s) (by omega : r + 1 ≤ s) (by omega) (by omega)
    omega
  · by_cases h' : s < r
    · have := Int.mul_le_mul (by omega : s + 1 ≤ r) (by omega : s + 1 ≤ r) (by omega) (by omega)
      omega
    · omega
theorem sq_le {r s : Int} (h0 : 0 ≤ r) (h : r ≤ s) : r * r ≤ s * s := Int.mul_le_mul h h h0 (by omega)
theorem sq_next (r : Int) : (r + 1) * (r + 1) = r * r + 2 * r + 1 := by
  rw [Int.add_mul, Int.mul_add]; omega
open Classical in
noncomputable def sqrtR (a : Int) : Int × Int :=
  if fitB a = true ∧ ¬ a < 0 then (if h : ∃ s, isRoot (a * 65536) s then (if a * 65536 - h.choose * h.choose > h.choose then h.choose + 1 else h.choose, 0) else (0, 0)) else (0, 11)
theorem sqrtR_of {a s : Int} (h : fitB a = true) (h0 : ¬ a < 0) (hs : isRoot (a * 65536) s) : sqrtR a = (if a * 65536 - s * s > s then s + 1 else s, 0) := by
  unfold sqrtR
  have hx : ∃ s, isRoot (a * 65536) s := ⟨s, hs⟩
  rw [if_pos ⟨h, h0⟩, dif_pos hx, isRoot_unique hx.choose_spec hs]
theorem sqrtR_no {a : Int} (h : ¬ (fitB a = true ∧ ¬ a < 0)) : sqrtR a = (0, 11) := by
  unfold sqrtR; rw [if_neg h]
end Go.Proofs.YtmbnlklinmmkdaaDoor.Sem
