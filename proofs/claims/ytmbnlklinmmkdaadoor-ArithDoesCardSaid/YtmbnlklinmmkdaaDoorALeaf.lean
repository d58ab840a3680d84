import Derived.Test.YtmbnlklinmmkdaaDoorAPure
import Derived.Test.YtmbnlklinmmkdaaDoorABase
namespace Go.Proofs.YtmbnlklinmmkdaaDoor.Leaf
open Go.RowKit Go.Proofs.YtmbnlklinmmkdaaDoorW.PrintWords Go.Proofs.YtmbnlklinmmkdaaDoorW.PrintLast Go.Proofs.YtmbnlklinmmkdaaDoorW.PrintMore
open Go.Proofs.YtmbnlklinmmkdaaDoor.Sem Go.Proofs.YtmbnlklinmmkdaaDoor.Base Go.Proofs.YtmbnlklinmmkdaaDoor.Pure Go.Proofs.YtmbnlklinmmkdaaDoor.PArithDoes
set_option linter.unusedVariables false
abbrev oV (k : Int) (x : Bool) (a n : Int) (s : ByteArray) (r f l : Int) : Value := .agg #[.int .i64 k, .bool x, .int .i64 a, .int .i64 n, .string s, .int .i64 r, .int .i64 f, .int .i64 l]
abbrev outV (r : R3) : Value := .tuple #[.agg #[.int .i64 r.k, .bool false, .int .i64 0, .int .i64 r.n, .string (⟨#[]⟩ : ByteArray), .int .i64 0, .int .i64 0, .int .i64 0], .int .i64 r.e]
def out (r : R3) : Int × Bool × Int × Int × ByteArray × Int × Int × Int × Int := (r.k, false, 0, r.n, ⟨#[]⟩, 0, 0, 0, r.e)
variable {k : Int} {x : Bool} {a n : Int} {s : ByteArray} {r f l : Int}
variable {j : Int} {y : Bool} {b m : Int} {t : ByteArray} {r2 f2 l2 : Int}
theorem small_eq (n : Int) : arith_small.f n = some (fitB n) := fits_eq n
theorem number_eq : arith_number.f k x a n s r f l = some (isNumB k n) := by
  unfold arith_number.f isNumB
  simp only [small_eq, fits_eq, Option.bind_some]
  by_cases h1 : k = 1
  · subst h1; cases fitB n <;> simp
  · by_cases h2 : k = 2 <;> simp [h1, h2]
theorem isInt_eq : arith_isInt.f k x a n s r f l = some (isIntB k n) := by
  unfold arith_isInt.f isIntB
  simp only [number_eq, Option.bind_some, isNumB]
  by_cases h1 : k = 1 <;> simp [h1]
theorem isTruth_eq : arith_isTruth.f k x a n s r f l = some (isTruB k n) := by
  unfold arith_isTruth.f isTruB
  by_cases h1 : k = 3 <;> by_cases h2 : n = 0 <;> simp [h1, h2]
theorem fromInt_eq (n : Int) : fix_FromInt.f n = some (asR 1 n) := by
  unfold fix_FromInt.f asR
  rw [if_pos rfl]
  by_cases h1 : n < -32768
  · rw [if_pos h1, if_neg (by omega)]
  · by_cases h2 : n > 32767
    · rw [if_neg h1, if_pos h2, if_neg (by omega)]
    · rw [if_neg h1, if_neg h2, if_pos (by omega), w64 (by omega) (by omega)]
theorem asReal_eq : arith_asReal.f k x a n s r f l = some (asR k n) := by
  unfold arith_asReal.f
  by_cases h1 : k = 1
  · subst h1; rw [if_pos rfl, fromInt_eq]; rfl
  · rw [if_neg h1]; unfold asR; rw [if_neg h1]
theorem scaled_eq (h : isNumB k n = true) : arith_scaled.f k x a n s r f l = some (sc k n) := by
  unfold arith_scaled.f sc
  have hf := fitB_true.1 (isNumB_true.1 h).2
  split
  · rw [w64 (by omega) (by omega)]
  · rfl
theorem bind_gv (k : Nat) (r : Int × Int) : (if r.2 = 0 then ((arith_real.f r.1).bind fun bt => (some (bt.1, bt.2.1, bt.2.2.1, bt.2.2.2.1, bt.2.2.2.2.1, bt.2.2.2.2.2.1, bt.2.2.2.2.2.2.1, bt.2.2.2.2.2.2.2, (0 : Int)))) else (some (0, false, 0, 0, (⟨#[]⟩ : ByteArray), 0, 0, 0, r.2))) = some (out (gv r)) := by
  unfold gv out
  split <;> rfl
theorem whole_out (n : Int) : ((arith_whole.f n).bind fun bt => (some (bt.1, bt.2.1, bt.2.2.1, bt.2.2.2.1, bt.2.2.2.2.1, bt.2.2.2.2.2.1, bt.2.2.2.2.2.2.1, bt.2.2.2.2.2.2.2, (0 : Int)))) = some (out ⟨1, n, 0⟩) := rfl
theorem signs_j1 (h : isNumB k n = true) : arith_signs.j1 4 (k == 1 && fitB (-n)) k x a n s r f l = some (out (negR k n)) := by
  have hf := fitB_true.1 (isNumB_true.1 h).2
  simp only [arith_signs.j1]
  unfold negR
  by_cases c : (k == 1 && fitB (-n)) = true
  · rw [if_pos c, if_pos c, w64 (by omega) (by omega)]; rfl
  · rw [if_neg c, if_neg c, asReal_eq, Option.bind_some]
    unfold bindR
    by_cases c2 : (asR k n).2 = 0
    · rw [if_pos c2, if_pos c2, sub_eq 0, Option.bind_some]; exact bind_gv 0 _
    · rw [if_neg c2, if_neg c2]; rfl
theorem signs_j0 (h : isNumB k n = true) : arith_signs.j0 5 false k x a n s r f l = some (out (negR k n)) := by
  have hf := fitB_true.1 (isNumB_true.1 h).2
  simp only [arith_signs.j0]
  rw [if_neg (by decide)]
  by_cases c : k = 1
  · rw [if_pos c, small_eq, Option.bind_some, w64 (by omega) (by omega)]
    have := signs_j1 (x := x) (a := a) (s := s) (r := r) (f := f) (l := l) h
    rw [show (k == 1 && fitB (-n)) = fitB (-n) by simp [c]] at this
    exact this
  · rw [if_neg c]
    have := signs_j1 (x := x) (a := a) (s := s) (r := r) (f := f) (l := l) h
    rw [show (k == 1 && fitB (-n)) = false by simp [c]] at this
    exact this
theorem neg_eq {nm : ByteArray} (hm : nm.toList = Un.neg.name) (h : isNumB k n = true) : arith_signs.f 5 nm k x a n s r f l = some (out (N1 .neg k n)) := by
  unfold arith_signs.f
  rw [hm, if_neg (by decide)]
  exact signs_j0 h
theorem abs_eq {nm : ByteArray} (hm : nm.toList = Un.abs.name) (h : isNumB k n = true) : arith_signs.f 5 nm k x a n s r f l = some (out (N1 .abs k n)) := by
  unfold arith_signs.f
  rw [hm, if_pos (by rfl)]
  show _ = some (out (if n ≥ 0 then ⟨k, n, 0⟩ else negR k n))
  by_cases c : n ≥ 0
  · rw [decide_eq_true c, if_pos c]; simp only [arith_signs.j0, if_true]; rfl
  · rw [decide_eq_false c, if_neg c]; exact signs_j0 h
theorem wholes_eq {nm : ByteArray} (u : Un) (hu : u = .ceiling ∨ u = .round ∨ u = .floor ∨ u = .truncate) (hm : nm.toList = u.name) : arith_wholes.f nm k x a n s r f l = some (out (N1 u k n)) := by
  unfold arith_wholes.f
  rw [hm]
  by_cases c : k = 1
  · rw [if_pos c, whole_out]
    rcases hu with rfl | rfl | rfl | rfl <;> simp only [N1, wh, if_pos c]
  · rw [if_neg c]
    rcases hu with rfl | rfl | rfl | rfl <;> simp only [N1, wh, if_neg c]
    · rw [if_pos (by rfl), ceiling_eq, Option.bind_some]; exact bind_gv 0 _
    · rw [if_neg (by decide), if_pos (by rfl), round_eq, Option.bind_some]; exact bind_gv 0 _
    · rw [if_neg (by decide), if_neg (by decide), if_pos (by rfl), floor_eq, Option.bind_some]; exact bind_gv 0 (floorF n, 0)
    · rw [if_neg (by decide), if_neg (by decide), if_neg (by decide), truncate_eq, Option.bind_some]; exact bind_gv 0 (truncF n, 0)
theorem bits_eq {nm : ByteArray} (o : Bi) (ho : o = .and ∨ o = .or ∨ o = .xor) (hm : nm.toList = o.name) (p q : Int) : arith_bits.f nm p q = some (bitF o p q) := by
  unfold arith_bits.f
  rw [hm]
  rcases ho with rfl | rfl | rfl
  · rw [if_pos (by rfl)]; rfl
  · rw [if_neg (by decide), if_pos (by rfl)]; rfl
  · rw [if_neg (by decide), if_neg (by decide)]; rfl
theorem wrap32_range (v : Int) : -2147483648 ≤ wrap32 v ∧ wrap32 v ≤ 2147483647 := by unfold wrap32; omega
theorem w64_32 (v : Int) : wrap64 (wrap32 v) = wrap32 v := by have := wrap32_range v; exact w64 (by omega) (by omega)
theorem shift_eq (p q : Int) (hp : fitB p = true) (hq : fitB q = true) : arith_shift.f 1 p q = some (shF p q) := by
  have h1 := fitB_true.1 hp
  have h2 := fitB_true.1 hq
  unfold arith_shift.f shF
  by_cases c1 : q > 31
  · rw [if_pos c1, if_pos (Or.inl c1)]; simp only [arith_shift.j0, if_true]
  · rw [if_neg c1]
    by_cases c2 : q < -31
    · rw [decide_eq_true c2, if_pos (Or.inr c2)]; simp only [arith_shift.j0, if_true]
    · rw [decide_eq_false c2, if_neg (by omega)]
      simp only [arith_shift.j0]
      rw [if_neg (by decide)]
      by_cases c3 : q ≥ 0
      · rw [if_pos c3, if_pos (by omega), if_pos c3, w64_32]
        have : min q.toNat IntKind.u32.bits = q.toNat := Nat.min_eq_left (by show q.toNat ≤ 32; omega)
        unfold shl
        rw [this]
        have e : ∀ v : Int, IntKind.u32.wrap v = v % 4294967296 := fun v => IntKind.wrap_u32 v
        rw [e]
      · rw [if_neg c3, if_neg c3, w64 (x := -q) (by omega) (by omega), if_pos (by omega), w64_32]
        have : min (-q).toNat IntKind.u32.bits = (-q).toNat := Nat.min_eq_left (by show (-q).toNat ≤ 32; omega)
        unfold shr
        rw [this]
theorem tdiv_range {p q : Int} (hp : fitB p = true) (hq : fitB q = true) : -2147483648 ≤ p.tdiv q ∧ p.tdiv q ≤ 2147483648 := by
  have h1 := fitB_true.1 hp
  have h : (p.tdiv q).natAbs ≤ p.natAbs := by rw [Int.natAbs_tdiv]; exact Nat.div_le_self _ _
  omega
theorem idiv_eq {nm : ByteArray} (hm : nm.toList = Bi.idiv.name) (p q : Int) (hp : fitB p = true) (hq : fitB q = true) : arith_quotient.f nm p q = some (out (quoR p q)) := by
  unfold arith_quotient.f quoR
  have ht := tdiv_range hp hq
  rw [hm]
  by_cases c : q = 0
  · rw [if_pos c, if_pos c]; rfl
  · rw [if_neg c, if_neg c, if_neg (by decide), w64 (by omega) (by omega), small_eq, Option.bind_some]
    by_cases c2 : fitB (p.tdiv q) = true
    · rw [if_pos c2, if_pos c2]; rfl
    · rw [if_neg c2, if_neg c2]; rfl
theorem mod_eq {nm : ByteArray} (hm : nm.toList = Bi.mod.name) (p q : Int) : arith_quotient.f nm p q = some (out (modR p q)) := by
  unfold arith_quotient.f modR
  rw [hm]
  by_cases c : q = 0
  · rw [if_pos c, if_pos c]; rfl
  · rw [if_neg c, if_neg c, if_pos (by rfl)]; rfl
theorem less_eq (h1 : isNumB k n = true) (h2 : isNumB j m = true) : arith_Less.f 1 k x a n s r f l j y b m t r2 f2 l2 = some (decide (sc k n < sc j m), true) := by
  unfold arith_Less.f
  simp only [number_eq, Option.bind_some, h1, h2, if_true, arith_Less.j0, Bool.not_true, scaled_eq h1, scaled_eq h2]
  rfl
theorem equal_eq (h1 : isNumB k n = true) (h2 : isNumB j m = true) : arith_Equal.f 1 k x a n s r f l j y b m t r2 f2 l2 = some (sc k n == sc j m, true) := by
  unfold arith_Equal.f
  simp only [number_eq, Option.bind_some, h1, h2, if_true, arith_Equal.j0, Bool.not_true, scaled_eq h1, scaled_eq h2]
  rfl
theorem order_eq {nm : ByteArray} (o : Bi) (ho : o = .lt ∨ o = .le ∨ o = .gt ∨ o = .ge) (hm : nm.toList = o.name) (h1 : isNumB k n = true) (h2 : isNumB j m = true) :
    arith_order.f 1 nm k x a n s r f l j y b m t r2 f2 l2 = some (ordB o (sc k n) (sc j m)) := by
  unfold arith_order.f
  rw [less_eq h1 h2, equal_eq h1 h2, hm]
  simp only [Option.bind_some]
  generalize sc k n = u
  generalize sc j m = v
  rcases ho with rfl | rfl | rfl | rfl
  · rw [if_pos (by rfl)]; rfl
  · rw [if_neg (by decide), if_pos (by rfl)]
    show _ = some (decide (u ≤ v))
    by_cases c : u < v
    · rw [decide_eq_true c, if_pos rfl, decide_eq_true (by omega)]
    · rw [decide_eq_false c, if_neg (by decide)]
      by_cases c2 : u = v
      · rw [beq_iff_eq.mpr c2, decide_eq_true (by omega)]
      · rw [beq_eq_false_iff_ne.mpr c2, decide_eq_false (by omega)]
  · rw [if_neg (by decide), if_neg (by decide), if_pos (by rfl)]
    show _ = some (decide (u > v))
    by_cases c : u < v
    · rw [decide_eq_true c, if_pos rfl, decide_eq_false (by omega)]
    · rw [decide_eq_false c, if_neg (by decide)]
      by_cases c2 : u = v
      · rw [beq_iff_eq.mpr c2, decide_eq_false (by omega)]; rfl
      · rw [beq_eq_false_iff_ne.mpr c2, decide_eq_true (by omega)]; rfl
  · rw [if_neg (by decide), if_neg (by decide), if_neg (by decide)]
    show _ = some (decide (u ≥ v))
    by_cases c : u < v
    · rw [decide_eq_true c, decide_eq_false (by omega)]; rfl
    · rw [decide_eq_false c, decide_eq_true (by omega)]; rfl
theorem exact_eq {nm : ByteArray} (o : Bi) (ho : o = .add ∨ o = .sub ∨ o = .mul) (hm : nm.toList = o.name) (p q : Int) (hp : fitB p = true) (hq : fitB q = true) : arith_exact.f nm p q = some (exF o p q) := by
  have h1 := fitB_true.1 hp
  have h2 := fitB_true.1 hq
  have h3 := prod_bounds h1.1 h1.2 h2.1 h2.2
  unfold arith_exact.f
  rw [hm]
  rcases ho with rfl | rfl | rfl
  · rw [if_pos (by rfl), w64 (by omega) (by omega)]; rfl
  · rw [if_neg (by decide), if_pos (by rfl), w64 (by omega) (by omega)]; rfl
  · rw [if_neg (by decide), if_neg (by decide), w64 (by omega) (by omega)]; rfl
theorem inexact_eq {nm : ByteArray} (o : Bi) (ho : o = .add ∨ o = .sub ∨ o = .mul ∨ o = .div) (hm : nm.toList = o.name) (p q : Int) : arith_inexact.f 3 nm p q = some (inF o p q) := by
  unfold arith_inexact.f
  rw [hm]
  rcases ho with rfl | rfl | rfl | rfl
  · rw [if_pos (by rfl), add_eq 0]; rfl
  · rw [if_neg (by decide), if_pos (by rfl), sub_eq 0]; rfl
  · rw [if_neg (by decide), if_neg (by decide), if_pos (by rfl), mul_eq 0]; rfl
  · rw [if_neg (by decide), if_neg (by decide), if_neg (by decide), div_eq 0]; rfl
theorem sums_j1 {nm : ByteArray} (o : Bi) (ho : o = .add ∨ o = .sub ∨ o = .mul ∨ o = .div) (hm : nm.toList = o.name) :
    arith_sums.j1 4 nm k x a n s r f l j y b m t r2 f2 l2 = some (out (realsR o k n j m)) := by
  simp only [arith_sums.j1]
  rw [asReal_eq, asReal_eq]
  simp only [Option.bind_some]
  unfold realsR bindR
  by_cases c1 : (asR k n).2 = 0
  · rw [if_pos c1, if_pos c1]
    dsimp only
    by_cases c2 : (asR j m).2 = 0
    · rw [if_pos c2, if_pos c2, inexact_eq o ho hm, Option.bind_some]; exact bind_gv 0 _
    · rw [if_neg c2, if_neg c2]; rfl
  · rw [if_neg c1, if_neg c1]; rfl
theorem sums_eq {nm : ByteArray} (o : Bi) (ho : o = .add ∨ o = .sub ∨ o = .mul) (hm : nm.toList = o.name) :
    arith_sums.f 5 nm k x a n s r f l j y b m t r2 f2 l2 = some (out (sumsR o k n j m)) := by
  have hj := sums_j1 (k := k) (x := x) (a := a) (n := n) (s := s) (r := r) (f := f) (l := l) (j := j) (y := y) (b := b) (m := m) (t := t) (r2 := r2) (f2 := f2) (l2 := l2) o (by rcases ho with h | h | h <;> simp [h]) hm
  unfold arith_sums.f sumsR
  rw [isInt_eq, isInt_eq, if_neg (by rw [hm]; rcases ho with rfl | rfl | rfl <;> decide)]
  simp only [Option.bind_some]
  cases h1 : isIntB k n
  · rw [if_neg (by decide)]; simp only [arith_sums.j0]; rw [if_neg (by decide), hj]; rfl
  · rw [if_pos rfl]; simp only [arith_sums.j0]
    cases h2 : isIntB j m
    · rw [if_neg (by decide), hj]; rfl
    · rw [if_pos rfl, exact_eq o ho hm n m (isIntB_true.1 h1).2 (isIntB_true.1 h2).2]
      simp only [Option.bind_some, small_eq, Bool.true_and]
      split
      · rfl
      · exact hj
theorem div_op {nm : ByteArray} (hm : nm.toList = Bi.div.name) : arith_sums.f 5 nm k x a n s r f l j y b m t r2 f2 l2 = some (out (realsR .div k n j m)) := by
  have hj := sums_j1 (k := k) (x := x) (a := a) (n := n) (s := s) (r := r) (f := f) (l := l) (j := j) (y := y) (b := b) (m := m) (t := t) (r2 := r2) (f2 := f2) (l2 := l2) .div (by simp) hm
  unfold arith_sums.f
  have h0 : nm.toList = [100, 105, 118] := hm
  rw [if_pos h0]; simp only [arith_sums.j0]; rw [if_neg (by decide), hj]
end Go.Proofs.YtmbnlklinmmkdaaDoor.Leaf
