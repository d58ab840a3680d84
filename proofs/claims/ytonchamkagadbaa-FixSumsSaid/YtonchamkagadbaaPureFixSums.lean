/- For all numbers and lists the sums and differences are those of the document, or its errors. No condition. -/
import Derived.OpenShut
import Derived.Test.YtonchamkagadbaaWSized
import Derived.Test.YtonchamkagadbaaPFixSumsx2
/- The row's text names the word 'PrintWords.sized_ints' from inside 'Go.Proofs.Ytonchamkagadbaa': here it stands under that name. -/
namespace Go.Proofs.Ytonchamkagadbaa.PrintWords
open Go.ChangeShapes Go.WideShapes
theorem sized_ints {H : Type} {enc : TypeId × Value → H} {P : Program} {W : World} {base : Nat} {spare : Nat → Bool} {held : Bool} {t e : TypeId} {k : IntKind} {a : Option Addr} {len cap : Nat} {d : DataW H} {ps : List MemPlace} {ts : List TypeId} {ds : List (DataW H)} {j : Nat}
    (hsz : (DataW.weightsEach P ts ds).all (· ≤ reachBytes) = true) (ht : ts[j]? = some t) (hd : ds[j]? = some d) (hu : P.underlying t = some (.slice e)) (he : P.underlying e = some (.int k)) (hc : P.cellsOf e = 1) {B : Nat} (hB : P.bytesOf e = B)
    (h : DataW.Trod enc P W base spare held t (.slice a len cap) d ps) : len * B ≤ 140737488351232 :=
  Go.Proofs.YtonchamkagadbaaW.PrintWords.sized_ints hsz ht hd hu he hc hB h
end Go.Proofs.Ytonchamkagadbaa.PrintWords

namespace Go.Proofs.Ytonchamkagadbaa.Pure
open Go.RowKit Go.Proofs.Ytonchamkagadbaa.PFixSums Go.Proofs.YtonchamkagadbaaW.PrintWords Go.Proofs.YtonchamkagadbaaW.PrintLast

theorem w64 {x : Int} (h0 : -9223372036854775808 ≤ x) (h1 : x ≤ 9223372036854775807) : wrap64 x = x := by unfold wrap64; omega

def fitB (a : Int) : Bool := decide (-2147483648 ≤ a ∧ a ≤ 2147483647)
theorem fitB_true {a : Int} : fitB a = true ↔ -2147483648 ≤ a ∧ a ≤ 2147483647 := by unfold fitB; exact decide_eq_true_iff
theorem fitB_false {a : Int} : fitB a = false ↔ ¬ (-2147483648 ≤ a ∧ a ≤ 2147483647) := by unfold fitB; exact decide_eq_false_iff_not

theorem fits_eq (a : Int) : fix_Fits.f a = some (fitB a) := by
  unfold fix_Fits.f fitB
  by_cases h : a ≥ -2147483648
  · rw [if_pos h]; congr 1; apply decide_eq_decide.2; omega
  · rw [if_neg h]; congr 1; symm; apply decide_eq_false; omega

theorem within_eq (a : Int) : fix_within.f a = some (if fitB a = true then (a, 0) else (0, 18)) := by
  unfold fix_within.f; rw [fits_eq]; simp only [Option.bind_some]; split <;> rfl

theorem all_eq (k : Nat) (a b : Int) : fix_all.f (k + 3) [a, b] = some (fitB a && fitB b) := by
  unfold fix_all.f
  have e0 : rd [a, b] 0 = a := rfl
  have e1 : rd [a, b] 1 = b := rfl
  have s1 : wrap64 1 = 1 := w64 (by omega) (by omega)
  have s2 : wrap64 2 = 2 := w64 (by omega) (by omega)
  simp only [fix_all.l0, List.length_cons, List.length_nil]
  simp [fits_eq, s1, s2, e0, e1]
  cases fitB a <;> cases fitB b <;> rfl

/-- The quotient of numbers that are not below 0, rounded half up. -/
def rq (a b : Int) : Int := if b ≤ 2 * (a % b) then a / b + 1 else a / b
/-- The quotient, rounded half away from 0. -/
def rnd (a b : Int) : Int := if (decide (a < 0) != decide (b < 0)) = true then - rq a.natAbs b.natAbs else rq a.natAbs b.natAbs

theorem rq_bounds (a b : Int) (ha : 0 ≤ a) (hb : 0 < b) : 0 ≤ rq a b ∧ rq a b ≤ a + 1 := by
  have h1 := Int.ediv_nonneg ha (Int.le_of_lt hb)
  have h2 : a / b ≤ a := Int.ediv_le_self _ ha
  unfold rq; split <;> omega

theorem over_pos (k : Nat) (a b : Int) (hb : 0 < b) (hb2 : b ≤ 2147483648) (ha : -4611686018427387904 ≤ a) (ha2 : a ≤ 4611686018427387904) :
    fix_over.j0 (k + 1) a b = some (rnd a b) := by
  have hb' : ((b.natAbs : Nat) : Int) = b := by omega
  have hbn : ¬ b < 0 := by omega
  simp only [fix_over.j0]
  rw [if_neg (by omega)]
  unfold rnd
  rw [hb']
  by_cases hn : a < 0
  · have ha' : ((a.natAbs : Nat) : Int) = -a := by omega
    have hs : (decide (a < 0) != decide (b < 0)) = true := by simp [hn, hbn]
    rw [ha', if_pos hs]
    have ed : Int.tdiv a b = -((-a) / b) := by
      rw [← Int.tdiv_eq_ediv_of_nonneg (by omega : 0 ≤ -a), Int.neg_tdiv]; omega
    have em : Int.tmod a b = -((-a) % b) := by
      rw [← Int.tmod_eq_emod_of_nonneg (by omega : 0 ≤ -a), Int.neg_tmod]; omega
    rw [ed, em]
    have h1 := Int.emod_nonneg (-a) (by omega : b ≠ 0)
    have h2 := Int.emod_lt_of_pos (-a) hb
    have h3 := Int.ediv_nonneg (by omega : 0 ≤ -a) (Int.le_of_lt hb)
    have h4 : (-a) / b ≤ -a := Int.ediv_le_self _ (by omega)
    unfold rq
    generalize (-a) % b = r at *
    generalize (-a) / b = q at *
    rw [w64 (x := 2 * -r) (by omega) (by omega), if_neg (by omega : ¬ 2 * -r ≥ b), w64 (x := -2 * -r) (by omega) (by omega), w64 (x := -q) (by omega) (by omega), w64 (x := -q - 1) (by omega) (by omega)]
    by_cases hr : b ≤ 2 * r
    · rw [if_pos (by omega : -2 * -r ≥ b), if_pos hr]; congr 1; omega
    · rw [if_neg (by omega : ¬ -2 * -r ≥ b), if_neg hr]
  · have ha' : ((a.natAbs : Nat) : Int) = a := by omega
    have hs : ¬ (decide (a < 0) != decide (b < 0)) = true := by simp [hn, hbn]
    rw [ha', if_neg hs]
    have ed : Int.tdiv a b = a / b := Int.tdiv_eq_ediv_of_nonneg (by omega)
    have em : Int.tmod a b = a % b := Int.tmod_eq_emod_of_nonneg (by omega)
    rw [ed, em]
    have h1 := Int.emod_nonneg a (by omega : b ≠ 0)
    have h2 := Int.emod_lt_of_pos a hb
    have h3 := Int.ediv_nonneg (by omega : 0 ≤ a) (Int.le_of_lt hb)
    have h4 : a / b ≤ a := Int.ediv_le_self _ (by omega)
    unfold rq
    generalize a % b = r at *
    generalize a / b = q at *
    rw [w64 (x := 2 * r) (by omega) (by omega), w64 (x := -2 * r) (by omega) (by omega), w64 (x := q) (by omega) (by omega), w64 (x := q + 1) (by omega) (by omega)]
    by_cases hr : b ≤ 2 * r
    · rw [if_pos (by omega : 2 * r ≥ b), if_pos hr]
    · rw [if_neg (by omega : ¬ 2 * r ≥ b), if_neg (by omega : ¬ -2 * r ≥ b), if_neg hr]

theorem over_eq (k : Nat) (a b : Int) (hb : b ≠ 0) (hb1 : -2147483648 ≤ b) (hb2 : b ≤ 2147483647) (ha : -4611686018427387904 ≤ a) (ha2 : a ≤ 4611686018427387904) :
    fix_over.f (k + 1) a b = some (rnd a b) := by
  unfold fix_over.f
  by_cases hn : b < 0
  · rw [if_pos hn, w64 (by omega) (by omega), w64 (by omega) (by omega), over_pos k (-a) (-b) (by omega) (by omega) (by omega) (by omega)]
    congr 1
    unfold rnd
    rw [Int.natAbs_neg, Int.natAbs_neg]
    by_cases h0 : a = 0
    · subst h0
      have : rq (Int.natAbs 0) b.natAbs = 0 := by
        unfold rq; rw [show ((Int.natAbs 0 : Nat) : Int) = 0 from rfl, Int.zero_emod, Int.zero_ediv, if_neg (by omega)]
      rw [this]; simp
    · have e1 : decide (-a < 0) = !decide (a < 0) := by
        rw [← decide_not]; apply decide_eq_decide.2; omega
      have e2 : decide (-b < 0) = !decide (b < 0) := by
        rw [← decide_not]; apply decide_eq_decide.2; omega
      rw [e1, e2]; cases decide (a < 0) <;> cases decide (b < 0) <;> rfl
  · rw [if_neg hn, over_pos k a b (by omega) (by omega) ha ha2]

theorem prod_bounds {a b : Int} (ha : -2147483648 ≤ a) (ha2 : a ≤ 2147483647) (hb : -2147483648 ≤ b) (hb2 : b ≤ 2147483647) :
    -4611686018427387904 ≤ a * b ∧ a * b ≤ 4611686018427387904 := by
  have h : (a * b).natAbs ≤ 2147483648 * 2147483648 := by
    rw [Int.natAbs_mul]; exact Nat.mul_le_mul (by omega) (by omega)
  omega

/-- What a product comes to. -/
def mulR (a b : Int) : Int × Int := if (fitB a && fitB b) = true then (if fitB (rnd (a * b) 65536) = true then (rnd (a * b) 65536, 0) else (0, 18)) else (0, 11)
/-- What a quotient comes to. -/
def divR (a b : Int) : Int × Int := if (fitB a && fitB b) = true then (if b = 0 then (0, 18) else if fitB (rnd (a * 65536) b) = true then (rnd (a * 65536) b, 0) else (0, 18)) else (0, 11)
/-- What a sum comes to. -/
def addR (a b : Int) : Int × Int := if (fitB a && fitB b) = true then (if fitB (a + b) = true then (a + b, 0) else (0, 18)) else (0, 11)
/-- What a difference comes to. -/
def subR (a b : Int) : Int × Int := if (fitB a && fitB b) = true then (if fitB (a - b) = true then (a - b, 0) else (0, 18)) else (0, 11)

theorem mul_eq (k : Nat) (a b : Int) : fix_Mul.f (k + 3) a b = some (mulR a b) := by
  unfold fix_Mul.f mulR
  rw [all_eq]; simp only [Option.bind_some]
  by_cases h : (fitB a && fitB b) = true
  · rw [if_pos h, if_pos h]
    rw [Bool.and_eq_true, fitB_true, fitB_true] at h
    have hp := prod_bounds h.1.1 h.1.2 h.2.1 h.2.2
    rw [w64 (by omega) (by omega), over_eq (k + 2) _ _ (by omega) (by omega) (by omega) hp.1 hp.2]
    simp only [Option.bind_some, within_eq]
  · rw [if_neg h, if_neg h]

theorem answers_eq (k : Nat) : mezzotintlaw01_answers.f (k + 3) = some true := by
  unfold mezzotintlaw01_answers.f
  rw [mul_eq, show mulR 32768 196608 = (98304, 0) by decide]; rfl

theorem rfits_eq (a : Int) : mezzotintref01_Fits.f a = some (fitB a) := by
  unfold mezzotintref01_Fits.f fitB
  by_cases h : a ≥ -2147483648
  · rw [if_pos h]; congr 1; apply decide_eq_decide.2; omega
  · rw [if_neg h]; congr 1; symm; apply decide_eq_false; omega

theorem keep_eq (a : Int) : mezzotintref01_keep.f a = some (if fitB a = true then (a, 0) else (0, 18)) := by
  unfold mezzotintref01_keep.f; rw [rfits_eq]; simp only [Option.bind_some]; split <;> rfl

theorem add_eq (k : Nat) (a b : Int) : fix_Add.f (k + 3) a b = some (addR a b) := by
  unfold fix_Add.f addR
  rw [all_eq]; simp only [Option.bind_some]
  by_cases h : (fitB a && fitB b) = true
  · rw [if_pos h, if_pos h]
    rw [Bool.and_eq_true, fitB_true, fitB_true] at h
    rw [w64 (by omega) (by omega)]
    simp only [Option.bind_some, within_eq]
  · rw [if_neg h, if_neg h]

theorem sub_eq (k : Nat) (a b : Int) : fix_Sub.f (k + 3) a b = some (subR a b) := by
  unfold fix_Sub.f subR
  rw [all_eq]; simp only [Option.bind_some]
  by_cases h : (fitB a && fitB b) = true
  · rw [if_pos h, if_pos h]
    rw [Bool.and_eq_true, fitB_true, fitB_true] at h
    rw [w64 (by omega) (by omega)]
    simp only [Option.bind_some, within_eq]
  · rw [if_neg h, if_neg h]

theorem radd_eq (a b : Int) : mezzotintref01_Add.f a b = some (addR a b) := by
  unfold mezzotintref01_Add.f addR
  simp only [rfits_eq, Option.bind_some]
  cases ha : fitB a
  · simp
  · cases hb : fitB b
    · simp
    · rw [fitB_true] at ha hb
      rw [w64 (by omega) (by omega), keep_eq]; simp

theorem rsub_eq (a b : Int) : mezzotintref01_Sub.f a b = some (subR a b) := by
  unfold mezzotintref01_Sub.f subR
  simp only [rfits_eq, Option.bind_some]
  cases ha : fitB a
  · simp
  · cases hb : fitB b
    · simp
    · rw [fitB_true] at ha hb
      rw [w64 (by omega) (by omega), keep_eq]; simp

/-- The sum of a list, from a number on; the first error. -/
def sumR : Int → List Int → Int × Int
  | t, [] => (t, 0)
  | t, x :: xs => if (addR t x).2 = 0 then sumR (addR t x).1 xs else (0, (addR t x).2)

theorem drop_rd (xs : List Int) (i : Int) (h0 : 0 ≤ i) (h : i < xs.length) : xs.drop i.toNat = rd xs i :: xs.drop (i + 1).toNat := by
  have hl : i.toNat < xs.length := by omega
  rw [List.drop_eq_getElem_cons hl, show (i + 1).toNat = i.toNat + 1 by omega]
  congr 1
  unfold rd; rw [List.getD_eq_getElem?_getD, List.getElem?_eq_getElem hl]; rfl

theorem sum_l0 (xs : List Int) (hx : xs.length ≤ 10000) (d : Nat) : ∀ (k : Nat) (t i : Int), 0 ≤ i → i ≤ xs.length → (xs.length : Int) - i = d → d + 4 ≤ k →
    fix_Sum.l0 k t xs xs.length i = some (sumR t (xs.drop i.toNat)) := by
  induction d with
  | zero =>
    intro k t i h0 h1 hd hk
    obtain ⟨k, rfl⟩ : ∃ m, k = m + 1 := ⟨k - 1, by omega⟩
    simp only [fix_Sum.l0]
    rw [if_neg (by omega), List.drop_eq_nil_of_le (by omega)]; rfl
  | succ d ih =>
    intro k t i h0 h1 hd hk
    obtain ⟨k, rfl⟩ : ∃ m, k = m + 3 + 1 := ⟨k - 4, by omega⟩
    have hlt : i < (xs.length : Int) := by omega
    simp only [fix_Sum.l0]
    rw [if_pos hlt, if_pos h0, if_pos hlt, add_eq, Option.bind_some, drop_rd xs i h0 hlt, w64 (x := i + 1) (by omega) (by omega)]
    simp only [sumR]
    by_cases c : (addR t (rd xs i)).2 = 0
    · rw [if_pos c, if_pos c]
      exact ih (k + 3) _ (i + 1) (by omega) (by omega) (by omega) (by omega)
    · rw [if_neg c, if_neg c]

theorem sum_eq (xs : List Int) (hx : xs.length ≤ 10000) (k : Nat) (hk : xs.length + 4 ≤ k) : fix_Sum.f k xs = some (sumR 0 xs) := by
  unfold fix_Sum.f
  rw [sum_l0 xs hx xs.length k 0 0 (by omega) (by omega) (by omega) (by omega)]; rfl

theorem same_self (a b : Int) : mezzotintlaw01_same.f a b a b = some true := by
  unfold mezzotintlaw01_same.f; simp

theorem j2_eq (xs : List Int) (hx : xs.length ≤ 10000) (k : Nat) (hk : xs.length + 5 ≤ k) (t late : Int) (h : sumR 0 xs = (if late = 0 then t else 0, late)) :
    mezzotintlaw01_FixSums.j2 k xs t late = some true := by
  obtain ⟨k, rfl⟩ : ∃ m, k = m + 1 := ⟨k - 1, by omega⟩
  simp only [mezzotintlaw01_FixSums.j2, Option.bind_some, List.nil_append, List.length_nil]
  rw [sum_eq xs hx k (by omega), h]
  by_cases c : late = 0
  · rw [if_pos c, if_pos (by omega), if_pos c]; simp [same_self]
  · rw [if_neg c, if_pos (by omega), if_neg c]; simp [same_self]

theorem law_l0 (xs : List Int) (hx : xs.length ≤ 10000) (d : Nat) : ∀ (k : Nat) (t late i : Int), 0 ≤ i → i ≤ xs.length → (xs.length : Int) - i = d → xs.length + d + 6 ≤ k →
    (late = 0 → sumR 0 xs = sumR t (xs.drop i.toNat)) → (late ≠ 0 → sumR 0 xs = (0, late)) → mezzotintlaw01_FixSums.l0 k xs t late i = some true := by
  induction d with
  | zero =>
    intro k t late i h0 h1 hd hk e1 e2
    obtain ⟨k, rfl⟩ : ∃ m, k = m + 1 := ⟨k - 1, by omega⟩
    simp only [mezzotintlaw01_FixSums.l0]
    rw [if_neg (by omega)]
    apply j2_eq xs hx k (by omega)
    by_cases c : late = 0
    · rw [e1 c, if_pos c, List.drop_eq_nil_of_le (by omega), c]; rfl
    · rw [e2 c, if_neg c]
  | succ d ih =>
    intro k t late i h0 h1 hd hk e1 e2
    obtain ⟨k, rfl⟩ : ∃ m, k = m + 1 := ⟨k - 1, by omega⟩
    have hlt : i < (xs.length : Int) := by omega
    simp only [mezzotintlaw01_FixSums.l0]
    rw [if_pos hlt]
    by_cases c : late = 0
    · rw [if_pos c, if_pos h0, radd_eq, Option.bind_some, w64 (x := i + 1) (by omega) (by omega)]
      have e := e1 c
      rw [drop_rd xs i h0 hlt] at e
      simp only [sumR] at e
      apply ih k _ _ (i + 1) (by omega) (by omega) (by omega) (by omega)
      · intro h; rw [e, if_pos h]
      · intro h; rw [e, if_neg h]
    · rw [if_neg c]
      apply j2_eq xs hx k (by omega)
      rw [e2 c, if_neg c]

theorem FixSums : mezzotintlaw01_FixSums.Pure := by
  intro a b xs _ _ _ _ _
  refine ⟨2 * xs.length + 10 + 3, ?_⟩
  unfold mezzotintlaw01_FixSums.f
  simp only [add_eq, radd_eq, sub_eq, rsub_eq, answers_eq, Option.bind_some, same_self, fits_eq, rfits_eq, if_true, bne_self_eq_false, Bool.false_eq_true, if_false]
  simp only [mezzotintlaw01_FixSums.j0]
  by_cases c : (xs.length : Int) > 10000
  · rw [decide_eq_true c, if_pos rfl, show 2 * xs.length + 12 = 2 * xs.length + 9 + 3 from rfl, answers_eq]; rfl
  · rw [decide_eq_false c, if_neg (by simp)]
    exact law_l0 xs (by omega) xs.length _ 0 0 0 (by omega) (by omega) (by omega) (by omega) (fun _ => rfl) (fun h => absurd rfl h)

end Go.Proofs.Ytonchamkagadbaa.Pure
