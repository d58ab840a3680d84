/- The contracts of the program's functions on numbers, and of those that keep the first error, in the words of the plain text: out of the printed walks. -/
import Derived.Test.YtkggogbgnphmpaaDoorTurnsQ2
import Derived.Test.YtkggogbgnphmpaaDoorSem
namespace Go.Proofs.YtkggogbgnphmpaaDoor.Base
open Go.RowKit Go.Proofs.YtkggogbgnphmpaaDoorW.PrintWords Go.Proofs.YtkggogbgnphmpaaDoorW.PrintLast Go.Proofs.YtkggogbgnphmpaaDoorW.PrintMore
open Go.Proofs.YtkggogbgnphmpaaDoor.Sem Go.Proofs.YtkggogbgnphmpaaDoor.PMatTurns

theorem fits_eq (a : Int) : fix_Fits.f a = some (fitB a) := by
  unfold fix_Fits.f fitB
  by_cases h : a ≥ -2147483648
  · rw [if_pos h]; congr 1; apply decide_eq_decide.2; omega
  · rw [if_neg h]; congr 1; symm; apply decide_eq_false; omega

theorem within_eq (a : Int) : fix_within.f a = some (keepR a) := by
  unfold fix_within.f keepR; rw [fits_eq]; simp only [Option.bind_some]; split <;> rfl

theorem all_eq (k : Nat) (a b : Int) : fix_all.f (k + 3) [a, b] = some (fitB a && fitB b) := by
  unfold fix_all.f
  have e0 : rd [a, b] 0 = a := rfl
  have e1 : rd [a, b] 1 = b := rfl
  have s1 : wrap64 1 = 1 := w64 (by omega) (by omega)
  have s2 : wrap64 2 = 2 := w64 (by omega) (by omega)
  simp only [fix_all.l0, List.length_cons, List.length_nil]
  simp [fits_eq, s1, s2, e0, e1]
  cases fitB a <;> cases fitB b <;> rfl

theorem over_pos (k : Nat) (a b : Int) (hb : 0 < b) (hb2 : b ≤ 2147483648) (ha : -4611686018427387904 ≤ a) (ha2 : a ≤ 4611686018427387904) :
    fix_over.j0 (k + 1) a b = some (rnd a b) := by
  have hb' : ((b.natAbs : Nat) : Int) = b := by omega
  have hbn : ¬ b < 0 := by omega
  simp only [fix_over.j0]
  rw [if_neg (by omega)]
  unfold rnd
  rw [hb']
  by_cases hn : a < 0
  · have ha' : ((a.natAbs : Nat) : Int) = -a := by omega
    have hs : (decide (a < 0) != decide (b < 0)) = true := by simp [hn, hbn]
    rw [ha', if_pos hs]
    have ed : Int.tdiv a b = -((-a) / b) := by
      rw [← Int.tdiv_eq_ediv_of_nonneg (by omega : 0 ≤ -a), Int.neg_tdiv]; omega
    have em : Int.tmod a b = -((-a) % b) := by
      rw [← Int.tmod_eq_emod_of_nonneg (by omega : 0 ≤ -a), Int.neg_tmod]; omega
    rw [ed, em]
    have h1 := Int.emod_nonneg (-a) (by omega : b ≠ 0)
    have h2 := Int.emod_lt_of_pos (-a) hb
    have h3 := Int.ediv_nonneg (by omega : 0 ≤ -a) (Int.le_of_lt hb)
    have h4 : (-a) / b ≤ -a := Int.ediv_le_self _ (by omega)
    unfold rq
    generalize (-a) % b = r at *
    generalize (-a) / b = q at *
    rw [w64 (x := 2 * -r) (by omega) (by omega), if_neg (by omega : ¬ 2 * -r ≥ b), w64 (x := -2 * -r) (by omega) (by omega), w64 (x := -q) (by omega) (by omega), w64 (x := -q - 1) (by omega) (by omega)]
    by_cases hr : b ≤ 2 * r
    · rw [if_pos (by omega : -2 * -r ≥ b), if_pos hr]; congr 1; omega
    · rw [if_neg (by omega : ¬ -2 * -r ≥ b), if_neg hr]
  · have ha' : ((a.natAbs : Nat) : Int) = a := by omega
    have hs : ¬ (decide (a < 0) != decide (b < 0)) = true := by simp [hn, hbn]
    rw [ha', if_neg hs]
    have ed : Int.tdiv a b = a / b := Int.tdiv_eq_ediv_of_nonneg (by omega)
    have em : Int.tmod a b = a % b := Int.tmod_eq_emod_of_nonneg (by omega)
    rw [ed, em]
    have h1 := Int.emod_nonneg a (by omega : b ≠ 0)
    have h2 := Int.emod_lt_of_pos a hb
    have h3 := Int.ediv_nonneg (by omega : 0 ≤ a) (Int.le_of_lt hb)
    have h4 : a / b ≤ a := Int.ediv_le_self _ (by omega)
    unfold rq
    generalize a % b = r at *
    generalize a / b = q at *
    rw [w64 (x := 2 * r) (by omega) (by omega), w64 (x := -2 * r) (by omega) (by omega), w64 (x := q) (by omega) (by omega), w64 (x := q + 1) (by omega) (by omega)]
    by_cases hr : b ≤ 2 * r
    · rw [if_pos (by omega : 2 * r ≥ b), if_pos hr]
    · rw [if_neg (by omega : ¬ 2 * r ≥ b), if_neg (by omega : ¬ -2 * r ≥ b), if_neg hr]

theorem over_eq (k : Nat) (a b : Int) (hb : b ≠ 0) (hb1 : -2147483648 ≤ b) (hb2 : b ≤ 2147483647) (ha : -4611686018427387904 ≤ a) (ha2 : a ≤ 4611686018427387904) :
    fix_over.f (k + 1) a b = some (rnd a b) := by
  unfold fix_over.f
  by_cases hn : b < 0
  · rw [if_pos hn, w64 (by omega) (by omega), w64 (by omega) (by omega), over_pos k (-a) (-b) (by omega) (by omega) (by omega) (by omega)]
    congr 1
    unfold rnd
    rw [Int.natAbs_neg, Int.natAbs_neg]
    by_cases h0 : a = 0
    · subst h0
      have : rq (Int.natAbs 0) b.natAbs = 0 := by
        unfold rq; rw [show ((Int.natAbs 0 : Nat) : Int) = 0 from rfl, Int.zero_emod, Int.zero_ediv, if_neg (by omega)]
      rw [this]; simp
    · have e1 : decide (-a < 0) = !decide (a < 0) := by
        rw [← decide_not]; apply decide_eq_decide.2; omega
      have e2 : decide (-b < 0) = !decide (b < 0) := by
        rw [← decide_not]; apply decide_eq_decide.2; omega
      rw [e1, e2]; cases decide (a < 0) <;> cases decide (b < 0) <;> rfl
  · rw [if_neg hn, over_pos k a b (by omega) (by omega) ha ha2]

theorem mul_eq (k : Nat) (a b : Int) : fix_Mul.f (k + 3) a b = some (mulR a b) := by
  unfold fix_Mul.f mulR
  rw [all_eq]; simp only [Option.bind_some]
  by_cases h : (fitB a && fitB b) = true
  · rw [if_pos h, if_pos h]
    rw [Bool.and_eq_true, fitB_true, fitB_true] at h
    have hp := prod_bounds h.1.1 h.1.2 h.2.1 h.2.2
    rw [w64 (by omega) (by omega), over_eq (k + 2) _ _ (by omega) (by omega) (by omega) hp.1 hp.2]
    simp only [Option.bind_some, within_eq]
  · rw [if_neg h, if_neg h]

theorem add_eq (k : Nat) (a b : Int) : fix_Add.f (k + 3) a b = some (addR a b) := by
  unfold fix_Add.f addR
  rw [all_eq]; simp only [Option.bind_some]
  by_cases h : (fitB a && fitB b) = true
  · rw [if_pos h, if_pos h]
    rw [Bool.and_eq_true, fitB_true, fitB_true] at h
    rw [w64 (by omega) (by omega)]
    simp only [Option.bind_some, within_eq]
  · rw [if_neg h, if_neg h]

theorem drop_rd (xs : List Int) (i : Int) (h0 : 0 ≤ i) (h : i < xs.length) : xs.drop i.toNat = rd xs i :: xs.drop (i + 1).toNat := by
  have hl : i.toNat < xs.length := by omega
  rw [List.drop_eq_getElem_cons hl, show (i + 1).toNat = i.toNat + 1 by omega]
  congr 1
  unfold rd; rw [List.getD_eq_getElem?_getD, List.getElem?_eq_getElem hl]; rfl

theorem sum_l0 (xs : List Int) (hx : xs.length ≤ 10000) (d : Nat) : ∀ (k : Nat) (t i : Int), 0 ≤ i → i ≤ xs.length → (xs.length : Int) - i = d → d + 4 ≤ k →
    fix_Sum.l0 k t xs xs.length i = some (sumR t (xs.drop i.toNat)) := by
  induction d with
  | zero =>
    intro k t i h0 h1 hd hk
    obtain ⟨k, rfl⟩ : ∃ m, k = m + 1 := ⟨k - 1, by omega⟩
    simp only [fix_Sum.l0]
    rw [if_neg (by omega), List.drop_eq_nil_of_le (by omega)]; rfl
  | succ d ih =>
    intro k t i h0 h1 hd hk
    obtain ⟨k, rfl⟩ : ∃ m, k = m + 3 + 1 := ⟨k - 4, by omega⟩
    have hlt : i < (xs.length : Int) := by omega
    simp only [fix_Sum.l0]
    rw [if_pos hlt, if_pos h0, if_pos hlt, add_eq, Option.bind_some, drop_rd xs i h0 hlt, w64 (x := i + 1) (by omega) (by omega)]
    simp only [sumR]
    by_cases c : (addR t (rd xs i)).2 = 0
    · rw [if_pos c, if_pos c]
      exact ih (k + 3) _ (i + 1) (by omega) (by omega) (by omega) (by omega)
    · rw [if_neg c, if_neg c]

theorem sum_eq (xs : List Int) (hx : xs.length ≤ 10000) (k : Nat) (hk : xs.length + 4 ≤ k) : fix_Sum.f k xs = some (sumR 0 xs) := by
  unfold fix_Sum.f
  rw [sum_l0 xs hx xs.length k 0 0 (by omega) (by omega) (by omega) (by omega)]; rfl

theorem took_eq (s a b : Int) : mat_steps_took.f s a b = some (tk s (a, b)) := by
  unfold mat_steps_took.f tk; split <;> rfl

theorem two_eq (s a x c y : Int) (l : List Int) (hl : l.length ≤ 10) : mat_steps_two.f 20 s a x c y l = some (twoS s a x c y l) := by
  unfold mat_steps_two.f mat_steps_mul.f mat_steps_sum.f
  rw [show (20 : Nat) = 17 + 3 from rfl]
  simp only [mul_eq, took_eq, Option.bind_some]
  rw [if_pos (by simp; omega), sum_eq _ (by simp; omega) _ (by simp; omega)]
  simp only [Option.bind_some]
  rfl

/-- A block that is known whole. -/
def Has (W : World) (g : Nat) (cs : Array Value) (T : TypeId) : Prop := W.heap[g]? = some (.cells cs T (0, 0))
theorem Has.new (W : World) (cs : Array Value) (T : TypeId) {b : Nat} (h : b = W.heap.size) : Has (W.alloc (.cells cs T)) b cs T := by
  subst h; unfold Has; simpa using heap_alloc_new W _
theorem Has.keep {W W' : World} {b g : Nat} {cs : Array Value} {T : TypeId} (h : Has W b cs T) (hk : KeepBut W W' g none) (hne : b ≠ g) : Has W' b cs T :=
  hk.blk h hne (by simp)
theorem Has.below {W W' : World} {b : Nat} {cs : Array Value} {T : TypeId} (h : Has W b cs T) (hk : Below W.heap.size W W') : Has W' b cs T :=
  (hk.block b (blk_lt h)).trans h
theorem Has.alloc {W : World} {b : Nat} {cs : Array Value} {T : TypeId} (h : Has W b cs T) (o : Obj) : Has (W.alloc o) b cs T :=
  h.below (below_alloc (Below.refl _ _) o)
theorem Has.drewN {W : World} {b : Nat} {cs : Array Value} {T : TypeId} (h : Has W b cs T) (n : Nat) : Has (W.drewN n) b cs T := h
theorem Has.drew {W : World} {b : Nat} {cs : Array Value} {T : TypeId} (h : Has W b cs T) : Has W.drew b cs T := h
theorem Has.far {W : World} {b : Nat} {cs : Array Value} {T : TypeId} (h : Has W b cs T) {p : Addr} (hne : b ≠ p.block) (u : Value) : Has (W.setCell p u) b cs T := blk_far h hne u
theorem Has.set {W : World} {b : Nat} {cs : Array Value} {T : TypeId} (h : Has W b cs T) (i : Nat) (u : Value) : Has (W.setCell ⟨b, i, none⟩ u) b (cs.setIfInBounds i u) T := blk_set h i u
theorem Has.cell {W : World} {b : Nat} {cs : Array Value} {T : TypeId} (h : Has W b cs T) (i : Nat) : W.cell? ⟨b, i, none⟩ = cs[i]? := blk_cell h i
theorem Has.free {W : World} {b : Nat} {cs : Array Value} {T : TypeId} (h : Has W b cs T) (i : Nat) : W.frozen? ⟨b, i, none⟩ = false := blk_frozen h i
theorem Has.lt {W : World} {b : Nat} {cs : Array Value} {T : TypeId} (h : Has W b cs T) : b < W.heap.size := blk_lt h

theorem one_reads {W : World} {b : Nat} {x : Int} (h : Has W b #[.int .i64 x] 3) : Kd.C (Kd.int .i64) W (some ⟨b, 0, none⟩) ([x] : List Int).length [x] := by
  refine ⟨rfl, by simp, fun _ => ⟨⟨b, 0, none⟩, rfl, fun j p hj => ?_⟩⟩
  have hj0 : j = 0 := by
    by_cases c : j = 0
    · exact c
    · have : ([x] : List Int)[j]? = none := List.getElem?_eq_none (by simp; omega)
      rw [this] at hj; cases hj
  subst hj0
  obtain rfl : x = p := by simpa using hj
  refine ⟨[.int .i64 x], rfl, rfl, fun i u hi => ?_⟩
  have hi0 : i = 0 := by
    by_cases c : i = 0
    · exact c
    · have : ([.int .i64 x] : List Value)[i]? = none := List.getElem?_eq_none (by simp; omega)
      rw [this] at hi; cases hi
  subst hi0
  obtain rfl : Value.int .i64 x = u := by simpa using hi
  exact h.cell 0

theorem cFits (a : Int) (w : World) : Calls Tryd.prog 8 #[.int .i64 a] w fun e w' => e = .returned (.bool (fitB a)) ∧ Drawn0 w w' :=
  fix_Fits.calls a _ w (fits_eq a)
theorem cMul (a b : Int) (w : World) : Calls Tryd.prog 20 #[.int .i64 a, .int .i64 b] w fun e w' => e = .returned (.tuple #[.int .i64 (mulR a b).1, .int .i64 (mulR a b).2]) ∧ Below w.heap.size w w' :=
  fix_Mul.calls 3 a b _ _ w (mul_eq 0 a b)
theorem rFits_eq (a : Int) : PMatTurns.mezzotintref01_Fits.f a = some (fitB a) := fits_eq a
theorem rFits (a : Int) (w : World) : Calls Tryd.prog 7 #[.int .i64 a] w fun e w' => e = .returned (.bool (fitB a)) ∧ Drawn0 w w' :=
  PMatTurns.mezzotintref01_Fits.calls a _ w (rFits_eq a)

theorem cTwo0 {g : Nat} {s a x c y : Int} {w0 W : World} (hI : Has W g #[.int .i64 s] 37) (hg : w0.heap.size ≤ g) (hB : Below w0.heap.size w0 W) :
    Calls Tryd.prog 15 #[.pointer (some ⟨g, 0, none⟩), .int .i64 a, .int .i64 x, .int .i64 c, .int .i64 y, .slice none 0 0] W fun e w' => e = .returned (.int .i64 (twoS s a x c y []).1) ∧ Has w' g #[.int .i64 (twoS s a x c y []).2] 37 ∧ Below w0.heap.size w0 w' ∧ KeepBut W w' g none :=
  (mat_steps_two.calls 20 g s a x c y none 0 [] _ _ w0 W ⟨hI, hg⟩ hB (Kd.C_nil _ W) (by simp) (by simp) (two_eq s a x c y [] (by simp))).mono fun _ _ ⟨h1, h2, h3, h4⟩ => ⟨h1, h2.1, h3, h4⟩
theorem cTwo1 {g b : Nat} {s a x c y t : Int} {w0 W : World} (hI : Has W g #[.int .i64 s] 37) (hb : Has W b #[.int .i64 t] 3) (hg : w0.heap.size ≤ g) (hB : Below w0.heap.size w0 W) (hne : b ≠ g) :
    Calls Tryd.prog 15 #[.pointer (some ⟨g, 0, none⟩), .int .i64 a, .int .i64 x, .int .i64 c, .int .i64 y, .slice (some ⟨b, 0, none⟩) 1 1] W fun e w' => e = .returned (.int .i64 (twoS s a x c y [t]).1) ∧ Has w' g #[.int .i64 (twoS s a x c y [t]).2] 37 ∧ Below w0.heap.size w0 w' ∧ KeepBut W w' g none :=
  (mat_steps_two.calls 20 g s a x c y (some ⟨b, 0, none⟩) 1 [t] _ _ w0 W ⟨hI, hg⟩ hB (one_reads hb) (by simp) (by rintro ad ⟨⟩ _; exact hne) (two_eq s a x c y [t] (by simp))).mono fun _ _ ⟨h1, h2, h3, h4⟩ => ⟨h1, h2.1, h3, h4⟩
end Go.Proofs.YtkggogbgnphmpaaDoor.Base
