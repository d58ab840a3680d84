import Derived.Test.YtmbnlklinmmkdaaDoorQ6
import Derived.Test.YtmbnlklinmmkdaaDoorQ3
import Derived.Test.YtmbnlklinmmkdaaDoorASem
namespace Go.Proofs.YtmbnlklinmmkdaaDoor.Base
open Go.RowKit Go.Proofs.YtmbnlklinmmkdaaDoorW.PrintWords Go.Proofs.YtmbnlklinmmkdaaDoorW.PrintLast Go.Proofs.YtmbnlklinmmkdaaDoorW.PrintMore
open Go.Proofs.YtmbnlklinmmkdaaDoor.Sem Go.Proofs.YtmbnlklinmmkdaaDoor.PArithDoes
theorem fits_eq (a : Int) : fix_Fits.f a = some (fitB a) := by
  unfold fix_Fits.f fitB
  by_cases h : a ≥ -2147483648
  · rw [if_pos h]; congr 1; apply decide_eq_decide.2; omega
  · rw [if_neg h]; congr 1; symm; apply decide_eq_false; omega
theorem within_eq (a : Int) : fix_within.f a = some (keepR a) := by
  unfold fix_within.f keepR; rw [fits_eq]; simp only [Option.bind_some]; split <;> rfl
theorem all_eq (k : Nat) (a b : Int) : fix_all.f (k + 3) [a, b] = some (fitB a && fitB b) := by
  unfold fix_all.f
  have e0 : rd [a, b] 0 = a := rfl
  have e1 : rd [a, b] 1 = b := rfl
  have s1 : wrap64 1 = 1 := w64 (by omega) (by omega)
  have s2 : wrap64 2 = 2 := w64 (by omega) (by omega)
  simp only [fix_all.l0, List.length_cons, List.length_nil]
  simp [fits_eq, s1, s2, e0, e1]
  cases fitB a <;> cases fitB b <;> rfl
theorem over_pos (k : Nat) (a b : Int) (hb : 0 < b) (hb2 : b ≤ 2147483648) (ha : -4611686018427387904 ≤ a) (ha2 : a ≤ 4611686018427387904) :
    fix_over.j0 (k + 1) a b = some (rnd a b) := by
  have hb' : ((b.natAbs : Nat) : Int) = b := by omega
  have hbn : ¬ b < 0 := by omega
  simp only [fix_over.j0]
  rw [if_neg (by omega)]
  unfold rnd
  rw [hb']
  by_cases hn : a < 0
  · have ha' : ((a.natAbs : Nat) : Int) = -a := by omega
    have hs : (decide (a < 0) != decide (b < 0)) = true := by simp [hn, hbn]
    rw [ha', if_pos hs]
    have ed : Int.tdiv a b = -((-a) / b) := by
      rw [← Int.tdiv_eq_ediv_of_nonneg (by omega : 0 ≤ -a), Int.neg_tdiv]; omega
    have em : Int.tmod a b = -((-a) % b) := by
      rw [← Int.tmod_eq_emod_of_nonneg (by omega : 0 ≤ -a), Int.neg_tmod]; omega
    rw [ed, em]
    have h1 := Int.emod_nonneg (-a) (by omega : b ≠ 0)
    have h2 := Int.emod_lt_of_pos (-a) hb
    have h3 := Int.ediv_nonneg (by omega : 0 ≤ -a) (Int.le_of_lt hb)
    have h4 : (-a) / b ≤ -a := Int.ediv_le_self _ (by omega)
    unfold rq
    generalize (-a) % b = r at *
    generalize (-a) / b = q at *
    rw [w64 (x := 2 * -r) (by omega) (by omega), if_neg (by omega : ¬ 2 * -r ≥ b), w64 (x := -2 * -r) (by omega) (by omega), w64 (x := -q) (by omega) (by omega), w64 (x := -q - 1) (by omega) (by omega)]
    by_cases hr : b ≤ 2 * r
    · rw [if_pos (by omega : -2 * -r ≥ b), if_pos hr]; congr 1; omega
    · rw [if_neg (by omega : ¬ -2 * -r ≥ b), if_neg hr]
  · have ha' : ((a.natAbs : Nat) : Int) = a := by omega
    have hs : ¬ (decide (a < 0) != decide (b < 0)) = true := by simp [hn, hbn]
    rw [ha', if_neg hs]
    have ed : Int.tdiv a b = a / b := Int.tdiv_eq_ediv_of_nonneg (by omega)
    have em : Int.tmod a b = a % b := Int.tmod_eq_emod_of_nonneg (by omega)
    rw [ed, em]
    have h1 := Int.emod_nonneg a (by omega : b ≠ 0)
    have h2 := Int.emod_lt_of_pos a hb
    have h3 := Int.ediv_nonneg (by omega : 0 ≤ a) (Int.le_of_lt hb)
    have h4 : a / b ≤ a := Int.ediv_le_self _ (by omega)
    unfold rq
    generalize a % b = r at *
    generalize a / b = q at *
    rw [w64 (x := 2 * r) (by omega) (by omega), w64 (x := -2 * r) (by omega) (by omega), w64 (x := q) (by omega) (by omega), w64 (x := q + 1) (by omega) (by omega)]
    by_cases hr : b ≤ 2 * r
    · rw [if_pos (by omega : 2 * r ≥ b), if_pos hr]
    · rw [if_neg (by omega : ¬ 2 * r ≥ b), if_neg (by omega : ¬ -2 * r ≥ b), if_neg hr]
theorem over_eq (k : Nat) (a b : Int) (hb : b ≠ 0) (hb1 : -2147483648 ≤ b) (hb2 : b ≤ 2147483647) (ha : -4611686018427387904 ≤ a) (ha2 : a ≤ 4611686018427387904) :
    fix_over.f (k + 1) a b = some (rnd a b) := by
  unfold fix_over.f
  by_cases hn : b < 0
  · rw [if_pos hn, w64 (by omega) (by omega), w64 (by omega) (by omega), over_pos k (-a) (-b) (by omega) (by omega) (by omega) (by omega)]
    congr 1
    unfold rnd
    rw [Int.natAbs_neg, Int.natAbs_neg]
    by_cases h0 : a = 0
    · subst h0
      have : rq (Int.natAbs 0) b.natAbs = 0 := by
        unfold rq; rw [show ((Int.natAbs 0 : Nat) : Int) = 0 from rfl, Int.zero_emod, Int.zero_ediv, if_neg (by omega)]
      rw [this]; simp
    · have e1 : decide (-a < 0) = !decide (a < 0) := by
        rw [← decide_not]; apply decide_eq_decide.2; omega
      have e2 : decide (-b < 0) = !decide (b < 0) := by
        rw [← decide_not]; apply decide_eq_decide.2; omega
      rw [e1, e2]; cases decide (a < 0) <;> cases decide (b < 0) <;> rfl
  · rw [if_neg hn, over_pos k a b (by omega) (by omega) ha ha2]
theorem mul_eq (k : Nat) (a b : Int) : fix_Mul.f (k + 3) a b = some (mulR a b) := by
  unfold fix_Mul.f mulR
  rw [all_eq]; simp only [Option.bind_some]
  by_cases h : (fitB a && fitB b) = true
  · rw [if_pos h, if_pos h]
    rw [Bool.and_eq_true, fitB_true, fitB_true] at h
    have hp := prod_bounds h.1.1 h.1.2 h.2.1 h.2.2
    rw [w64 (by omega) (by omega), over_eq (k + 2) _ _ (by omega) (by omega) (by omega) hp.1 hp.2]
    simp only [Option.bind_some, within_eq]
  · rw [if_neg h, if_neg h]
theorem add_eq (k : Nat) (a b : Int) : fix_Add.f (k + 3) a b = some (addR a b) := by
  unfold fix_Add.f addR
  rw [all_eq]; simp only [Option.bind_some]
  by_cases h : (fitB a && fitB b) = true
  · rw [if_pos h, if_pos h]
    rw [Bool.and_eq_true, fitB_true, fitB_true] at h
    rw [w64 (by omega) (by omega)]
    simp only [Option.bind_some, within_eq]
  · rw [if_neg h, if_neg h]
theorem sub_eq (k : Nat) (a b : Int) : fix_Sub.f (k + 3) a b = some (subR a b) := by
  unfold fix_Sub.f subR
  rw [all_eq]; simp only [Option.bind_some]
  by_cases h : (fitB a && fitB b) = true
  · rw [if_pos h, if_pos h]
    rw [Bool.and_eq_true, fitB_true, fitB_true] at h
    rw [w64 (by omega) (by omega)]
    simp only [Option.bind_some, within_eq]
  · rw [if_neg h, if_neg h]
theorem div_eq (k : Nat) (a b : Int) : fix_Div.f (k + 3) a b = some (divR a b) := by
  unfold fix_Div.f divR
  rw [all_eq]; simp only [Option.bind_some]
  by_cases h : (fitB a && fitB b) = true
  · rw [if_pos h, if_pos h]
    rw [Bool.and_eq_true, fitB_true, fitB_true] at h
    by_cases hb : b = 0
    · rw [if_pos hb, if_pos hb]
    · rw [if_neg hb, if_neg hb, w64 (by omega) (by omega), over_eq (k + 2) _ _ hb (by omega) (by omega) (by omega) (by omega)]
      simp only [Option.bind_some, within_eq]
  · rw [if_neg h, if_neg h]
theorem sqrt_l0 (n : Int) (hn : 0 ≤ n) (hn2 : n < 140737488355328) : ∀ (d : Nat), d ≤ 25 → ∀ (k : Nat) (r b : Int), d + 1 ≤ k → (b = 2 ^ d / 2) → 0 ≤ r → r ≤ 33554432 - 2 ^ d → r * r ≤ n → n < (r + 2 ^ d) * (r + 2 ^ d) →
    ∃ s, isRoot n s ∧ fix_Sqrt.l0 k n r b = some (if n - s * s > s then s + 1 else s, 0) := by
  intro d
  induction d with
  | zero =>
    intro _ k r b hk hb h0 h1 h2 h3
    obtain ⟨k, rfl⟩ : ∃ m, k = m + 1 := ⟨k - 1, by omega⟩
    have hb' : b = 0 := by simpa using hb
    subst hb'
    have h1' : r ≤ 33554431 := by simpa using h1
    have h3' : n < (r + 1) * (r + 1) := by simpa using h3
    have hs : r * r ≤ 140737488355328 := by omega
    have hr0 : 0 ≤ r * r := Int.mul_nonneg h0 h0
    refine ⟨r, ⟨h0, h2, h3'⟩, ?_⟩
    simp only [fix_Sqrt.l0]
    rw [if_neg (by omega), w64 (x := r * r) (by omega) (by omega), w64 (x := n - r * r) (by omega) (by omega), w64 (x := r + 1) (by omega) (by omega)]
    split <;> rfl
  | succ d ih =>
    intro hd k r b hk hb h0 h1 h2 h3
    obtain ⟨k, rfl⟩ : ∃ m, k = m + 1 := ⟨k - 1, by omega⟩
    have e : (2 : Int) ^ (d + 1) = 2 * 2 ^ d := by rw [Int.pow_succ, Int.mul_comm]
    have hp : (0 : Int) < 2 ^ d := Int.pow_pos (by decide)
    have hb' : b = 2 ^ d := by rw [hb, e]; omega
    have hb2 : b / 2 = 2 ^ d / 2 := by rw [hb']
    rw [e] at h1 h3
    clear hb e
    generalize hP : (2 : Int) ^ d = P at *
    subst hb'
    have hsq : (r + b) * (r + b) ≤ 33554432 * 33554432 := sq_le (by omega) (by omega)
    have hsq0 : 0 ≤ (r + b) * (r + b) := Int.mul_nonneg (by omega) (by omega)
    simp only [fix_Sqrt.l0]
    rw [if_pos (by omega), w64 (x := r + b) (by omega) (by omega), w64 (x := (r + b) * (r + b)) (by omega) (by omega)]
    by_cases c : (r + b) * (r + b) ≤ n
    · rw [if_pos c]
      exact ih (by omega) k (r + b) (b / 2) (by omega) rfl (by omega) (by omega) c (by rw [show r + b + b = r + 2 * b by omega]; exact h3)
    · rw [if_neg c]
      exact ih (by omega) k r (b / 2) (by omega) rfl (by omega) (by omega) h2 (by omega)
theorem sqrt_eq (a : Int) : fix_Sqrt.f 40 a = some (sqrtR a) := by
  by_cases h : fitB a = true ∧ ¬ a < 0
  · obtain ⟨h, h0⟩ := h
    have hb := fitB_true.1 h
    obtain ⟨s, hs, e1⟩ := sqrt_l0 (a * 65536) (by omega) (by omega) 25 (by omega) 39 0 16777216 (by omega) (by decide) (by omega) (by decide) (by omega) (by
      have : (0 + (2 : Int) ^ 25) * (0 + 2 ^ 25) = 1125899906842624 := by decide
      rw [this]; omega)
    rw [sqrtR_of h h0 hs]
    unfold fix_Sqrt.f
    rw [fits_eq, Option.bind_some, h, if_pos rfl]
    simp only [fix_Sqrt.j0]
    rw [decide_eq_false h0, if_neg (by simp), w64 (by omega) (by omega), e1]
  · rw [sqrtR_no h]
    unfold fix_Sqrt.f
    rw [fits_eq, Option.bind_some]
    cases hf : fitB a
    · rw [if_neg (by simp)]; simp only [fix_Sqrt.j0, if_true]
    · have hn : a < 0 := by
        by_cases c : a < 0
        · exact c
        · exact absurd ⟨hf, c⟩ h
      rw [if_pos rfl, decide_eq_true hn]; simp only [fix_Sqrt.j0, if_true]
theorem cSqrt (a : Int) (w : World) : Calls Tryd.prog 66 #[.int .i64 a] w fun e w' => e = .returned (.tuple #[.int .i64 (sqrtR a).1, .int .i64 (sqrtR a).2]) ∧ Drawn0 w w' :=
  fix_Sqrt.calls 40 a _ _ w (sqrt_eq a)
theorem and_mask (x : Nat) (h : x < 18446744073709551616) : x &&& 18446744073709486080 = x - x % 65536 := by
  have e : x - x % 65536 = x >>> 16 <<< 16 := by rw [Nat.shiftRight_eq_div_pow, Nat.shiftLeft_eq]; omega
  rw [e, show (18446744073709486080 : Nat) = (2 ^ 48 - 1) <<< 16 by decide]
  apply Nat.eq_of_testBit_eq
  intro i
  rw [Nat.testBit_and, Nat.testBit_shiftLeft, Nat.testBit_shiftLeft, Nat.testBit_shiftRight, Nat.testBit_two_pow_sub_one]
  by_cases c : 16 ≤ i
  · rw [show 16 + (i - 16) = i by omega]
    by_cases c2 : i < 64
    · rw [decide_eq_true (by omega : i - 16 < 48), decide_eq_true (by omega : i ≥ 16)]; simp
    · have : x.testBit i = false := Nat.testBit_lt_two_pow (Nat.lt_of_lt_of_le h (by
        have := Nat.pow_le_pow_right (by omega : 0 < 2) (by omega : 64 ≤ i)
        omega))
      rw [this]; simp
  · rw [decide_eq_false (by omega : ¬ i ≥ 16)]; simp
theorem i64_floor (a : Int) (h0 : -9223372036854775808 ≤ a) (h1 : a ≤ 9223372036854775807) : Go.bits .andNot .i64 a 65535 = a - a % 65536 := by
  show IntKind.i64.wrap ((BitVec.ofInt 64 a &&& ~~~ BitVec.ofInt 64 65535).toNat : Int) = _
  have e1 : (~~~ BitVec.ofInt 64 65535).toNat = 18446744073709486080 := by decide
  have e2 : ((BitVec.ofInt 64 a).toNat : Int) = a % 18446744073709551616 := by
    rw [BitVec.toNat_ofInt]; omega
  have h2 := (BitVec.ofInt 64 a).isLt
  rw [BitVec.toNat_and, e1, and_mask _ (by omega), IntKind.wrap_i64]
  generalize (BitVec.ofInt 64 a).toNat = n at *
  omega
theorem floor_eq (a : Int) : fix_Floor.f a = some (if fitB a = true then a - a % 65536 else 0) := by
  unfold fix_Floor.f
  rw [fits_eq, Option.bind_some]
  cases h : fitB a
  · rfl
  · rw [fitB_true] at h
    rw [if_pos rfl, if_pos rfl, i64_floor a (by omega) (by omega)]
theorem ceiling_eq (a : Int) : fix_Ceiling.f a = some (if fitB a = true then keepR (a + 65535 - (a + 65535) % 65536) else (0, 11)) := by
  unfold fix_Ceiling.f
  rw [fits_eq, Option.bind_some]
  cases h : fitB a
  · rfl
  · rw [fitB_true] at h
    rw [if_pos rfl, if_pos rfl, w64 (x := a + 65536) (by omega) (by omega), w64 (x := a + 65536 - 1) (by omega) (by omega), i64_floor _ (by omega) (by omega), within_eq, Option.bind_some, show a + 65536 - 1 = a + 65535 by omega]
theorem round_eq (a : Int) : fix_Round.f a = some (if fitB a = true then keepR (a + 32768 - (a + 32768) % 65536) else (0, 11)) := by
  unfold fix_Round.f
  rw [fits_eq, Option.bind_some]
  cases h : fitB a
  · rfl
  · rw [fitB_true] at h
    rw [if_pos rfl, if_pos rfl, w64 (x := a + 32768) (by omega) (by omega), i64_floor _ (by omega) (by omega), within_eq, Option.bind_some]
theorem truncate_eq (a : Int) : fix_Truncate.f a = some (if fitB a = true then (if a < 0 then a + (-a) % 65536 else a - a % 65536) else 0) := by
  unfold fix_Truncate.f
  rw [fits_eq, Option.bind_some]
  cases h : fitB a
  · rfl
  · have h' := fitB_true.1 h
    rw [if_pos rfl, if_pos rfl]
    by_cases c : a < 0
    · rw [if_pos c, if_pos c, w64 (x := -a) (by omega) (by omega), i64_floor (-a) (by omega) (by omega), w64 (by omega) (by omega)]
      congr 1; omega
    · rw [if_neg c, if_neg c, floor_eq, Option.bind_some, h, if_pos rfl]
def Has (W : World) (g : Nat) (cs : Array Value) (T : TypeId) : Prop := W.heap[g]? = some (.cells cs T (0, 0))
theorem Has.new (W : World) (cs : Array Value) (T : TypeId) {b : Nat} (h : b = W.heap.size) : Has (W.alloc (.cells cs T)) b cs T := by
  subst h; unfold Has; simpa using heap_alloc_new W _
theorem Has.below {W W' : World} {b : Nat} {cs : Array Value} {T : TypeId} (h : Has W b cs T) (hk : Below W.heap.size W W') : Has W' b cs T :=
  (hk.block b (blk_lt h)).trans h
theorem Has.alloc {W : World} {b : Nat} {cs : Array Value} {T : TypeId} (h : Has W b cs T) (o : Obj) : Has (W.alloc o) b cs T :=
  h.below (below_alloc (Below.refl _ _) o)
theorem Has.drewN {W : World} {b : Nat} {cs : Array Value} {T : TypeId} (h : Has W b cs T) (n : Nat) : Has (W.drewN n) b cs T := h
theorem Has.drew {W : World} {b : Nat} {cs : Array Value} {T : TypeId} (h : Has W b cs T) : Has W.drew b cs T := h
theorem Has.far {W : World} {b : Nat} {cs : Array Value} {T : TypeId} (h : Has W b cs T) {p : Addr} (hne : b ≠ p.block) (u : Value) : Has (W.setCell p u) b cs T := blk_far h hne u
theorem Has.set {W : World} {b : Nat} {cs : Array Value} {T : TypeId} (h : Has W b cs T) (i : Nat) (u : Value) : Has (W.setCell ⟨b, i, none⟩ u) b (cs.setIfInBounds i u) T := blk_set h i u
theorem Has.cell {W : World} {b : Nat} {cs : Array Value} {T : TypeId} (h : Has W b cs T) (i : Nat) : W.cell? ⟨b, i, none⟩ = cs[i]? := blk_cell h i
theorem Has.free {W : World} {b : Nat} {cs : Array Value} {T : TypeId} (h : Has W b cs T) (i : Nat) : W.frozen? ⟨b, i, none⟩ = false := blk_frozen h i
theorem Has.lt {W : World} {b : Nat} {cs : Array Value} {T : TypeId} (h : Has W b cs T) : b < W.heap.size := blk_lt h
theorem cFits (a : Int) (w : World) : Calls Tryd.prog 62 #[.int .i64 a] w fun e w' => e = .returned (.bool (fitB a)) ∧ Drawn0 w w' :=
  fix_Fits.calls a _ w (fits_eq a)
end Go.Proofs.YtmbnlklinmmkdaaDoor.Base
