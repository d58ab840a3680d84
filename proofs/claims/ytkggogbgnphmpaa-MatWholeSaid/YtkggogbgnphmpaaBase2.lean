/- More contracts of the program's functions that keep the first error, and of the root. -/
import Derived.Test.YtkggogbgnphmpaaBase
namespace Go.Proofs.Ytkggogbgnphmpaa.Base
open Go.RowKit Go.Proofs.YtkggogbgnphmpaaW.PrintWords Go.Proofs.YtkggogbgnphmpaaW.PrintLast Go.Proofs.YtkggogbgnphmpaaW.PrintMore
open Go.Proofs.Ytkggogbgnphmpaa.Sem Go.Proofs.Ytkggogbgnphmpaa.PMatWhole

theorem sub_eq (k : Nat) (a b : Int) : fix_Sub.f (k + 3) a b = some (subR a b) := by
  unfold fix_Sub.f subR
  rw [all_eq]; simp only [Option.bind_some]
  by_cases h : (fitB a && fitB b) = true
  · rw [if_pos h, if_pos h]
    rw [Bool.and_eq_true, fitB_true, fitB_true] at h
    rw [w64 (by omega) (by omega)]
    simp only [Option.bind_some, within_eq]
  · rw [if_neg h, if_neg h]

theorem div_eq (k : Nat) (a b : Int) : fix_Div.f (k + 3) a b = some (divR a b) := by
  unfold fix_Div.f divR
  rw [all_eq]; simp only [Option.bind_some]
  by_cases h : (fitB a && fitB b) = true
  · rw [if_pos h, if_pos h]
    rw [Bool.and_eq_true, fitB_true, fitB_true] at h
    by_cases hb : b = 0
    · rw [if_pos hb, if_pos hb]
    · rw [if_neg hb, if_neg hb, w64 (by omega) (by omega), over_eq (k + 2) _ _ hb (by omega) (by omega) (by omega) (by omega)]
      simp only [Option.bind_some, within_eq]
  · rw [if_neg h, if_neg h]

/-- The root of the program: a bit a round. -/
theorem sqrt_l0 (n : Int) (hn : 0 ≤ n) (hn2 : n < 140737488355328) : ∀ (d : Nat), d ≤ 25 → ∀ (k : Nat) (r b : Int), d + 1 ≤ k → (b = 2 ^ d / 2) → 0 ≤ r → r ≤ 33554432 - 2 ^ d → r * r ≤ n → n < (r + 2 ^ d) * (r + 2 ^ d) →
    ∃ s, isRoot n s ∧ fix_Sqrt.l0 k n r b = some (if n - s * s > s then s + 1 else s, 0) := by
  intro d
  induction d with
  | zero =>
    intro _ k r b hk hb h0 h1 h2 h3
    obtain ⟨k, rfl⟩ : ∃ m, k = m + 1 := ⟨k - 1, by omega⟩
    have hb' : b = 0 := by simpa using hb
    subst hb'
    have h1' : r ≤ 33554431 := by simpa using h1
    have h3' : n < (r + 1) * (r + 1) := by simpa using h3
    have hs : r * r ≤ 140737488355328 := by omega
    have hr0 : 0 ≤ r * r := Int.mul_nonneg h0 h0
    refine ⟨r, ⟨h0, h2, h3'⟩, ?_⟩
    simp only [fix_Sqrt.l0]
    rw [if_neg (by omega), w64 (x := r * r) (by omega) (by omega), w64 (x := n - r * r) (by omega) (by omega), w64 (x := r + 1) (by omega) (by omega)]
    split <;> rfl
  | succ d ih =>
    intro hd k r b hk hb h0 h1 h2 h3
    obtain ⟨k, rfl⟩ : ∃ m, k = m + 1 := ⟨k - 1, by omega⟩
    have e : (2 : Int) ^ (d + 1) = 2 * 2 ^ d := by rw [Int.pow_succ, Int.mul_comm]
    have hp : (0 : Int) < 2 ^ d := Int.pow_pos (by decide)
    have hb' : b = 2 ^ d := by rw [hb, e]; omega
    have hb2 : b / 2 = 2 ^ d / 2 := by rw [hb']
    rw [e] at h1 h3
    clear hb e
    generalize hP : (2 : Int) ^ d = P at *
    subst hb'
    have hsq : (r + b) * (r + b) ≤ 33554432 * 33554432 := sq_le (by omega) (by omega)
    have hsq0 : 0 ≤ (r + b) * (r + b) := Int.mul_nonneg (by omega) (by omega)
    simp only [fix_Sqrt.l0]
    rw [if_pos (by omega), w64 (x := r + b) (by omega) (by omega), w64 (x := (r + b) * (r + b)) (by omega) (by omega)]
    by_cases c : (r + b) * (r + b) ≤ n
    · rw [if_pos c]
      exact ih (by omega) k (r + b) (b / 2) (by omega) rfl (by omega) (by omega) c (by rw [show r + b + b = r + 2 * b by omega]; exact h3)
    · rw [if_neg c]
      exact ih (by omega) k r (b / 2) (by omega) rfl (by omega) (by omega) h2 (by omega)

theorem sqrt_eq (a : Int) : fix_Sqrt.f 40 a = some (sqrtR a) := by
  by_cases h : fitB a = true ∧ ¬ a < 0
  · obtain ⟨h, h0⟩ := h
    have hb := fitB_true.1 h
    obtain ⟨s, hs, e1⟩ := sqrt_l0 (a * 65536) (by omega) (by omega) 25 (by omega) 39 0 16777216 (by omega) (by decide) (by omega) (by decide) (by omega) (by
      have : (0 + (2 : Int) ^ 25) * (0 + 2 ^ 25) = 1125899906842624 := by decide
      rw [this]; omega)
    rw [sqrtR_of h h0 hs]
    unfold fix_Sqrt.f
    rw [fits_eq, Option.bind_some, h, if_pos rfl]
    simp only [fix_Sqrt.j0]
    rw [decide_eq_false h0, if_neg (by simp), w64 (by omega) (by omega), e1]
  · rw [sqrtR_no h]
    unfold fix_Sqrt.f
    rw [fits_eq, Option.bind_some]
    cases hf : fitB a
    · rw [if_neg (by simp)]; simp only [fix_Sqrt.j0, if_true]
    · have hn : a < 0 := by
        by_cases c : a < 0
        · exact c
        · exact absurd ⟨hf, c⟩ h
      rw [if_pos rfl, decide_eq_true hn]; simp only [fix_Sqrt.j0, if_true]

theorem cSqrt (a : Int) (w : World) : Calls Try.prog 35 #[.int .i64 a] w fun e w' => e = .returned (.tuple #[.int .i64 (sqrtR a).1, .int .i64 (sqrtR a).2]) ∧ Drawn0 w w' :=
  fix_Sqrt.calls 40 a _ _ w (sqrt_eq a)

theorem muls_eq (s a b : Int) : mat_steps_mul.f 20 s a b = some (mulS s a b) := by
  unfold mat_steps_mul.f; rw [show (20 : Nat) = 17 + 3 from rfl, mul_eq]; simp only [took_eq, Option.bind_some]; rfl
theorem subs_eq (s a b : Int) : mat_steps_sub.f 20 s a b = some (subS s a b) := by
  unfold mat_steps_sub.f; rw [show (20 : Nat) = 17 + 3 from rfl, sub_eq]; simp only [took_eq, Option.bind_some]; rfl
theorem divs_eq (s a b : Int) : mat_steps_div.f 20 s a b = some (divS s a b) := by
  unfold mat_steps_div.f; rw [show (20 : Nat) = 17 + 3 from rfl, div_eq]; simp only [took_eq, Option.bind_some]; rfl

theorem csMul {g : Nat} {s a b : Int} {w0 W : World} (hI : Has W g #[.int .i64 s] 46) (hg : w0.heap.size ≤ g) (hB : Below w0.heap.size w0 W) :
    Calls Try.prog 30 #[.pointer (some ⟨g, 0, none⟩), .int .i64 a, .int .i64 b] W fun e w' => e = .returned (.int .i64 (mulS s a b).1) ∧ Has w' g #[.int .i64 (mulS s a b).2] 46 ∧ Below w0.heap.size w0 w' ∧ KeepBut W w' g none :=
  (mat_steps_mul.calls 20 g s a b _ _ w0 W ⟨hI, hg⟩ hB (muls_eq s a b)).mono fun _ _ ⟨h1, h2, h3, h4⟩ => ⟨h1, h2.1, h3, h4⟩
theorem csSub {g : Nat} {s a b : Int} {w0 W : World} (hI : Has W g #[.int .i64 s] 46) (hg : w0.heap.size ≤ g) (hB : Below w0.heap.size w0 W) :
    Calls Try.prog 29 #[.pointer (some ⟨g, 0, none⟩), .int .i64 a, .int .i64 b] W fun e w' => e = .returned (.int .i64 (subS s a b).1) ∧ Has w' g #[.int .i64 (subS s a b).2] 46 ∧ Below w0.heap.size w0 w' ∧ KeepBut W w' g none :=
  (mat_steps_sub.calls 20 g s a b _ _ w0 W ⟨hI, hg⟩ hB (subs_eq s a b)).mono fun _ _ ⟨h1, h2, h3, h4⟩ => ⟨h1, h2.1, h3, h4⟩
theorem csDiv {g : Nat} {s a b : Int} {w0 W : World} (hI : Has W g #[.int .i64 s] 46) (hg : w0.heap.size ≤ g) (hB : Below w0.heap.size w0 W) :
    Calls Try.prog 28 #[.pointer (some ⟨g, 0, none⟩), .int .i64 a, .int .i64 b] W fun e w' => e = .returned (.int .i64 (divS s a b).1) ∧ Has w' g #[.int .i64 (divS s a b).2] 46 ∧ Below w0.heap.size w0 w' ∧ KeepBut W w' g none :=
  (mat_steps_div.calls 20 g s a b _ _ w0 W ⟨hI, hg⟩ hB (divs_eq s a b)).mono fun _ _ ⟨h1, h2, h3, h4⟩ => ⟨h1, h2.1, h3, h4⟩
theorem csTook {g : Nat} {s a b : Int} {w0 W : World} (hI : Has W g #[.int .i64 s] 46) (hg : w0.heap.size ≤ g) (hB : Below w0.heap.size w0 W) :
    Calls Try.prog 34 #[.pointer (some ⟨g, 0, none⟩), .int .i64 a, .int .i64 b] W fun e w' => e = .returned (.int .i64 (tk s (a, b)).1) ∧ Has w' g #[.int .i64 (tk s (a, b)).2] 46 ∧ Below w0.heap.size w0 w' ∧ KeepBut W w' g none :=
  (mat_steps_took.calls g s a b _ _ w0 W ⟨hI, hg⟩ hB (took_eq s a b)).mono fun _ _ ⟨h1, h2, h3, h4⟩ => ⟨h1, h2.1, h3, h4⟩
end Go.Proofs.Ytkggogbgnphmpaa.Base
