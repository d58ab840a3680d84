-- Walks that print.sh wrote for ArithDoes, mended; what the claim does not use is struck out.
import Derived.Test.YtmbnlklinmmkdaaDoorQ0
namespace Go.Proofs.YtmbnlklinmmkdaaDoor.PArithDoes
open Go.RowKit Go.Proofs.YtmbnlklinmmkdaaDoorW.PrintWords Go.Proofs.YtmbnlklinmmkdaaDoorW.PrintLast Go.Proofs.YtmbnlklinmmkdaaDoorW.PrintMore
attribute [local go_sem] max2_int min2_int max_two min_two max_three min_three max_four min_four   -- for this text's walks alone
set_option linter.unusedVariables false
set_option linter.unusedSimpArgs false
def mezzotintlaw08_count.j0 : Nat → ByteArray → Bool → Option (Int)
  | 0, _, _ => none
  | k + 1, x3, x4 => if x4 = true then (some 1) else (if x3.toList = ([97, 100, 100] : List UInt8) then (some 2) else (if x3.toList = ([115, 117, 98] : List UInt8) then (some 2) else (if x3.toList = ([109, 117, 108] : List UInt8) then (some 2) else (if x3.toList = ([100, 105, 118] : List UInt8) then (some 2) else (if x3.toList = ([105, 100, 105, 118] : List UInt8) then (some 2) else (if x3.toList = ([109, 111, 100] : List UInt8) then (some 2) else (if x3.toList = ([97, 110, 100] : List UInt8) then (some 2) else (if x3.toList = ([111, 114] : List UInt8) then (some 2) else (if x3.toList = ([120, 111, 114] : List UInt8) then (some 2) else (if x3.toList = ([98, 105, 116, 115, 104, 105, 102, 116] : List UInt8) then (some 2) else (if x3.toList = ([103, 116] : List UInt8) then (some 2) else (if x3.toList = ([103, 101] : List UInt8) then (some 2) else (if x3.toList = ([108, 116] : List UInt8) then (some 2) else (if x3.toList = ([108, 101] : List UInt8) then (some 2) else (some 0)))))))))))))))
def mezzotintlaw08_count.f (k : Nat) (a0 : ByteArray) : Option (Int) := if a0.toList = ([110, 101, 103] : List UInt8) then (mezzotintlaw08_count.j0 k a0 (a0.toList == ([110, 101, 103] : List UInt8))) else (if a0.toList = ([97, 98, 115] : List UInt8) then (mezzotintlaw08_count.j0 k a0 (a0.toList == ([97, 98, 115] : List UInt8))) else (if a0.toList = ([99, 101, 105, 108, 105, 110, 103] : List UInt8) then (mezzotintlaw08_count.j0 k a0 (a0.toList == ([99, 101, 105, 108, 105, 110, 103] : List UInt8))) else (if a0.toList = ([102, 108, 111, 111, 114] : List UInt8) then (mezzotintlaw08_count.j0 k a0 (a0.toList == ([102, 108, 111, 111, 114] : List UInt8))) else (if a0.toList = ([114, 111, 117, 110, 100] : List UInt8) then (mezzotintlaw08_count.j0 k a0 (a0.toList == ([114, 111, 117, 110, 100] : List UInt8))) else (if a0.toList = ([116, 114, 117, 110, 99, 97, 116, 101] : List UInt8) then (mezzotintlaw08_count.j0 k a0 (a0.toList == ([116, 114, 117, 110, 99, 97, 116, 101] : List UInt8))) else (if a0.toList = ([115, 113, 114, 116] : List UInt8) then (mezzotintlaw08_count.j0 k a0 (a0.toList == ([115, 113, 114, 116] : List UInt8))) else (if a0.toList = ([115, 105, 110] : List UInt8) then (mezzotintlaw08_count.j0 k a0 (a0.toList == ([115, 105, 110] : List UInt8))) else (if a0.toList = ([99, 111, 115] : List UInt8) then (mezzotintlaw08_count.j0 k a0 (a0.toList == ([99, 111, 115] : List UInt8))) else (mezzotintlaw08_count.j0 k a0 (a0.toList == ([110, 111, 116] : List UInt8)))))))))))
theorem mezzotintlaw08_count.mono_l : ∀ k, (∀ y0 y1, LeO (mezzotintlaw08_count.j0 k y0 y1) (mezzotintlaw08_count.j0 (k + 1) y0 y1))
  | 0 => fun _ _ r h => by simp [mezzotintlaw08_count.j0] at h
  | k + 1 => by
    have ih0 := mezzotintlaw08_count.mono_l k
    · intro y0 y1
      unfold mezzotintlaw08_count.j0
      repeat' first
      | (with_reducible exact ih0 _ _)
      | (with_reducible exact LeO.refl _)
      | (with_reducible exact LeO.none _)
      | (with_reducible refine LeO.ite ?_ ?_)
      | (with_reducible refine LeO.bind ?_ (fun _ => ?_))
      | exact ih0 _ _
      | exact LeO.none _
      | refine LeO.ite ?_ ?_
      | refine LeO.bind ?_ (fun _ => ?_)
theorem mezzotintlaw08_count.mono : ∀ a0 k, LeO (mezzotintlaw08_count.f k a0) (mezzotintlaw08_count.f (k + 1) a0) := by
  intro a0 k
  have ih0 := mezzotintlaw08_count.mono_l k
  unfold mezzotintlaw08_count.f
  repeat' first
      | (with_reducible exact ih0 _ _)
      | (with_reducible exact LeO.refl _)
      | (with_reducible exact LeO.none _)
      | (with_reducible refine LeO.ite ?_ ?_)
      | (with_reducible refine LeO.bind ?_ (fun _ => ?_))
      | exact ih0 _ _
      | exact LeO.none _
      | refine LeO.ite ?_ ?_
      | refine LeO.bind ?_ (fun _ => ?_)
set_option maxHeartbeats 8000000 in
set_option maxRecDepth 100000 in
theorem mezzotintlaw08_count.calls (k : Nat) (a0 : ByteArray) (r : Int) (w : World) (h : mezzotintlaw08_count.f k a0 = some r) :
    Calls Tryd.prog 9 #[.string a0] w fun e w' => e = .returned (.int .i64 r) ∧ Drawn0 w w' := by
  have H : (if a0.toList = ([110, 101, 103] : List UInt8) then (mezzotintlaw08_count.j0 k a0 (a0.toList == ([110, 101, 103] : List UInt8))) else (if a0.toList = ([97, 98, 115] : List UInt8) then (mezzotintlaw08_count.j0 k a0 (a0.toList == ([97, 98, 115] : List UInt8))) else (if a0.toList = ([99, 101, 105, 108, 105, 110, 103] : List UInt8) then (mezzotintlaw08_count.j0 k a0 (a0.toList == ([99, 101, 105, 108, 105, 110, 103] : List UInt8))) else (if a0.toList = ([102, 108, 111, 111, 114] : List UInt8) then (mezzotintlaw08_count.j0 k a0 (a0.toList == ([102, 108, 111, 111, 114] : List UInt8))) else (if a0.toList = ([114, 111, 117, 110, 100] : List UInt8) then (mezzotintlaw08_count.j0 k a0 (a0.toList == ([114, 111, 117, 110, 100] : List UInt8))) else (if a0.toList = ([116, 114, 117, 110, 99, 97, 116, 101] : List UInt8) then (mezzotintlaw08_count.j0 k a0 (a0.toList == ([116, 114, 117, 110, 99, 97, 116, 101] : List UInt8))) else (if a0.toList = ([115, 113, 114, 116] : List UInt8) then (mezzotintlaw08_count.j0 k a0 (a0.toList == ([115, 113, 114, 116] : List UInt8))) else (if a0.toList = ([115, 105, 110] : List UInt8) then (mezzotintlaw08_count.j0 k a0 (a0.toList == ([115, 105, 110] : List UInt8))) else (if a0.toList = ([99, 111, 115] : List UInt8) then (mezzotintlaw08_count.j0 k a0 (a0.toList == ([99, 111, 115] : List UInt8))) else (mezzotintlaw08_count.j0 k a0 (a0.toList == ([110, 111, 116] : List UInt8)))))))))))) = some r := h
  clear h
  have HC2 := Aside0.mk H
  clear H
  go_enter Tryd.func9, Tryd.ntmps9
  go_upto_if 4 with (fail)
  go_cut [4] (fun v4 wc => ∃ (kq : Nat) (x4_1 : Bool), v4 = .bool x4_1 ∧ Aside0 (mezzotintlaw08_count.j0 kq a0 x4_1 = some r) ∧ Aside0 (kq ≤ k) ∧ Drawn0 w wc)
  case first =>
    have H := HC2.out
    clear HC2
    by_cases c3 : a0.toList = ([110, 101, 103] : List UInt8)
    · rw [if_pos c3] at H
      have c3b0 : (a0.toList == ([110, 101, 103] : List UInt8)) = true := beq_iff_eq.mpr c3
      have c3b1 : (a0.toList != ([110, 101, 103] : List UInt8)) = false := bne_eq_false_iff_eq.mpr c3
      clear c3
      (first | rw [c3b0] | (simp only [i64_w, i32_w]; rw [c3b0]) | skip)
      have H' := Aside0.mk H
      clear H
      go_wp2
      go_meet
      case rel => exact ⟨_, ((a0.toList == ([110, 101, 103] : List UInt8))), (by first | rfl | (simp; done) | (simp [*]; done)), H', ⟨by first | omega | exact Nat.le_refl _⟩, by repeat (first | exact Drawn0.refl _ | apply Drawn0.step)⟩
    · rw [if_neg c3] at H
      have c3b0 : (a0.toList == ([110, 101, 103] : List UInt8)) = false := beq_eq_false_iff_ne.mpr c3
      have c3b1 : (a0.toList != ([110, 101, 103] : List UInt8)) = true := bne_iff_ne.mpr c3
      (first | rw [c3b0] | (simp only [i64_w, i32_w]; rw [c3b0]) | skip)
      by_cases c4 : a0.toList = ([97, 98, 115] : List UInt8)
      · rw [if_pos c4] at H
        have c4b0 : (a0.toList == ([97, 98, 115] : List UInt8)) = true := beq_iff_eq.mpr c4
        have c4b1 : (a0.toList != ([97, 98, 115] : List UInt8)) = false := bne_eq_false_iff_eq.mpr c4
        clear c4
        have H' := Aside0.mk H
        clear H
        go_wp2
        go_meet
        case rel => exact ⟨_, ((a0.toList == ([97, 98, 115] : List UInt8))), (by first | rfl | (simp; done) | (simp [*]; done)), H', ⟨by first | omega | exact Nat.le_refl _⟩, by repeat (first | exact Drawn0.refl _ | apply Drawn0.step)⟩
      · rw [if_neg c4] at H
        have c4b0 : (a0.toList == ([97, 98, 115] : List UInt8)) = false := beq_eq_false_iff_ne.mpr c4
        have c4b1 : (a0.toList != ([97, 98, 115] : List UInt8)) = true := bne_iff_ne.mpr c4
        by_cases c5 : a0.toList = ([99, 101, 105, 108, 105, 110, 103] : List UInt8)
        · rw [if_pos c5] at H
          have c5b0 : (a0.toList == ([99, 101, 105, 108, 105, 110, 103] : List UInt8)) = true := beq_iff_eq.mpr c5
          have c5b1 : (a0.toList != ([99, 101, 105, 108, 105, 110, 103] : List UInt8)) = false := bne_eq_false_iff_eq.mpr c5
          clear c5
          have H' := Aside0.mk H
          clear H
          go_wp2
          go_meet
          case rel => exact ⟨_, ((a0.toList == ([99, 101, 105, 108, 105, 110, 103] : List UInt8))), (by first | rfl | (simp; done) | (simp [*]; done)), H', ⟨by first | omega | exact Nat.le_refl _⟩, by repeat (first | exact Drawn0.refl _ | apply Drawn0.step)⟩
        · rw [if_neg c5] at H
          have c5b0 : (a0.toList == ([99, 101, 105, 108, 105, 110, 103] : List UInt8)) = false := beq_eq_false_iff_ne.mpr c5
          have c5b1 : (a0.toList != ([99, 101, 105, 108, 105, 110, 103] : List UInt8)) = true := bne_iff_ne.mpr c5
          by_cases c6 : a0.toList = ([102, 108, 111, 111, 114] : List UInt8)
          · rw [if_pos c6] at H
            have c6b0 : (a0.toList == ([102, 108, 111, 111, 114] : List UInt8)) = true := beq_iff_eq.mpr c6
            have c6b1 : (a0.toList != ([102, 108, 111, 111, 114] : List UInt8)) = false := bne_eq_false_iff_eq.mpr c6
            clear c6
            have H' := Aside0.mk H
            clear H
            go_wp2
            go_meet
            case rel => exact ⟨_, ((a0.toList == ([102, 108, 111, 111, 114] : List UInt8))), (by first | rfl | (simp; done) | (simp [*]; done)), H', ⟨by first | omega | exact Nat.le_refl _⟩, by repeat (first | exact Drawn0.refl _ | apply Drawn0.step)⟩
          · rw [if_neg c6] at H
            have c6b0 : (a0.toList == ([102, 108, 111, 111, 114] : List UInt8)) = false := beq_eq_false_iff_ne.mpr c6
            have c6b1 : (a0.toList != ([102, 108, 111, 111, 114] : List UInt8)) = true := bne_iff_ne.mpr c6
            by_cases c7 : a0.toList = ([114, 111, 117, 110, 100] : List UInt8)
            · rw [if_pos c7] at H
              have c7b0 : (a0.toList == ([114, 111, 117, 110, 100] : List UInt8)) = true := beq_iff_eq.mpr c7
              have c7b1 : (a0.toList != ([114, 111, 117, 110, 100] : List UInt8)) = false := bne_eq_false_iff_eq.mpr c7
              clear c7
              have H' := Aside0.mk H
              clear H
              go_wp2
              go_meet
              case rel => exact ⟨_, ((a0.toList == ([114, 111, 117, 110, 100] : List UInt8))), (by first | rfl | (simp; done) | (simp [*]; done)), H', ⟨by first | omega | exact Nat.le_refl _⟩, by repeat (first | exact Drawn0.refl _ | apply Drawn0.step)⟩
            · rw [if_neg c7] at H
              have c7b0 : (a0.toList == ([114, 111, 117, 110, 100] : List UInt8)) = false := beq_eq_false_iff_ne.mpr c7
              have c7b1 : (a0.toList != ([114, 111, 117, 110, 100] : List UInt8)) = true := bne_iff_ne.mpr c7
              by_cases c8 : a0.toList = ([116, 114, 117, 110, 99, 97, 116, 101] : List UInt8)
              · rw [if_pos c8] at H
                have c8b0 : (a0.toList == ([116, 114, 117, 110, 99, 97, 116, 101] : List UInt8)) = true := beq_iff_eq.mpr c8
                have c8b1 : (a0.toList != ([116, 114, 117, 110, 99, 97, 116, 101] : List UInt8)) = false := bne_eq_false_iff_eq.mpr c8
                clear c8
                have H' := Aside0.mk H
                clear H
                go_wp2
                go_meet
                case rel => exact ⟨_, ((a0.toList == ([116, 114, 117, 110, 99, 97, 116, 101] : List UInt8))), (by first | rfl | (simp; done) | (simp [*]; done)), H', ⟨by first | omega | exact Nat.le_refl _⟩, by repeat (first | exact Drawn0.refl _ | apply Drawn0.step)⟩
              · rw [if_neg c8] at H
                have c8b0 : (a0.toList == ([116, 114, 117, 110, 99, 97, 116, 101] : List UInt8)) = false := beq_eq_false_iff_ne.mpr c8
                have c8b1 : (a0.toList != ([116, 114, 117, 110, 99, 97, 116, 101] : List UInt8)) = true := bne_iff_ne.mpr c8
                by_cases c9 : a0.toList = ([115, 113, 114, 116] : List UInt8)
                · rw [if_pos c9] at H
                  have c9b0 : (a0.toList == ([115, 113, 114, 116] : List UInt8)) = true := beq_iff_eq.mpr c9
                  have c9b1 : (a0.toList != ([115, 113, 114, 116] : List UInt8)) = false := bne_eq_false_iff_eq.mpr c9
                  clear c9
                  have H' := Aside0.mk H
                  clear H
                  go_wp2
                  go_meet
                  case rel => exact ⟨_, ((a0.toList == ([115, 113, 114, 116] : List UInt8))), (by first | rfl | (simp; done) | (simp [*]; done)), H', ⟨by first | omega | exact Nat.le_refl _⟩, by repeat (first | exact Drawn0.refl _ | apply Drawn0.step)⟩
                · rw [if_neg c9] at H
                  have c9b0 : (a0.toList == ([115, 113, 114, 116] : List UInt8)) = false := beq_eq_false_iff_ne.mpr c9
                  have c9b1 : (a0.toList != ([115, 113, 114, 116] : List UInt8)) = true := bne_iff_ne.mpr c9
                  by_cases c10 : a0.toList = ([115, 105, 110] : List UInt8)
                  · rw [if_pos c10] at H
                    have c10b0 : (a0.toList == ([115, 105, 110] : List UInt8)) = true := beq_iff_eq.mpr c10
                    have c10b1 : (a0.toList != ([115, 105, 110] : List UInt8)) = false := bne_eq_false_iff_eq.mpr c10
                    clear c10
                    have H' := Aside0.mk H
                    clear H
                    go_wp2
                    go_meet
                    case rel => exact ⟨_, ((a0.toList == ([115, 105, 110] : List UInt8))), (by first | rfl | (simp; done) | (simp [*]; done)), H', ⟨by first | omega | exact Nat.le_refl _⟩, by repeat (first | exact Drawn0.refl _ | apply Drawn0.step)⟩
                  · rw [if_neg c10] at H
                    have c10b0 : (a0.toList == ([115, 105, 110] : List UInt8)) = false := beq_eq_false_iff_ne.mpr c10
                    have c10b1 : (a0.toList != ([115, 105, 110] : List UInt8)) = true := bne_iff_ne.mpr c10
                    by_cases c11 : a0.toList = ([99, 111, 115] : List UInt8)
                    · rw [if_pos c11] at H
                      have c11b0 : (a0.toList == ([99, 111, 115] : List UInt8)) = true := beq_iff_eq.mpr c11
                      have c11b1 : (a0.toList != ([99, 111, 115] : List UInt8)) = false := bne_eq_false_iff_eq.mpr c11
                      clear c11
                      have H' := Aside0.mk H
                      clear H
                      go_wp2
                      go_meet
                      case rel => exact ⟨_, ((a0.toList == ([99, 111, 115] : List UInt8))), (by first | rfl | (simp; done) | (simp [*]; done)), H', ⟨by first | omega | exact Nat.le_refl _⟩, by repeat (first | exact Drawn0.refl _ | apply Drawn0.step)⟩
                    · rw [if_neg c11] at H
                      have c11b0 : (a0.toList == ([99, 111, 115] : List UInt8)) = false := beq_eq_false_iff_ne.mpr c11
                      have c11b1 : (a0.toList != ([99, 111, 115] : List UInt8)) = true := bne_iff_ne.mpr c11
                      have H' := Aside0.mk H
                      clear H
                      go_wp2
                      go_meet
                      case rel => exact ⟨_, ((a0.toList == ([110, 111, 116] : List UInt8))), (by first | rfl | (simp; done) | (simp [*]; done)), H', ⟨by first | omega | exact Nat.le_refl _⟩, by repeat (first | exact Drawn0.refl _ | apply Drawn0.step)⟩
  case rest =>
    clear HC2
    try clear c1
    try clear p2
    try clear c3
    try clear c3b0
    try clear c3b1
    try clear c4
    try clear c4b0
    try clear c4b1
    try clear c5
    try clear c5b0
    try clear c5b1
    try clear c6
    try clear c6b0
    try clear c6b1
    try clear c7
    try clear c7b0
    try clear c7b1
    try clear c8
    try clear c8b0
    try clear c8b1
    try clear c9
    try clear c9b0
    try clear c9b1
    try clear c10
    try clear c10b0
    try clear c10b1
    try clear c11
    try clear c11b0
    try clear c11b1
    obtain ⟨kq, x4_1, rfl, HA, HJ1, ⟨mc1, rfl⟩⟩ := hcut
    cases kq with
    | zero => exact absurd HA.out (by simp [mezzotintlaw08_count.j0])
    | succ kj1 =>
      have H := HA.out
      clear HA
      simp only [mezzotintlaw08_count.j0] at H
      by_cases c12 : x4_1 = true
      · subst c12
        have H1 : (some 1) = some r := by rw [if_pos rfl] at H; exact H
        clear H
        have H := H1
        clear H1
        obtain rfl := Option.some.inj H
        go_wp2
        go_ret
        exact ⟨by first | rfl | (simp; done) | (simp [*]; done), by repeat (first | exact Drawn0.refl _ | apply Drawn0.step)⟩
      · replace c12 := Bool.eq_false_iff.mpr c12
        subst c12
        have H1 : (if a0.toList = ([97, 100, 100] : List UInt8) then (some 2) else (if a0.toList = ([115, 117, 98] : List UInt8) then (some 2) else (if a0.toList = ([109, 117, 108] : List UInt8) then (some 2) else (if a0.toList = ([100, 105, 118] : List UInt8) then (some 2) else (if a0.toList = ([105, 100, 105, 118] : List UInt8) then (some 2) else (if a0.toList = ([109, 111, 100] : List UInt8) then (some 2) else (if a0.toList = ([97, 110, 100] : List UInt8) then (some 2) else (if a0.toList = ([111, 114] : List UInt8) then (some 2) else (if a0.toList = ([120, 111, 114] : List UInt8) then (some 2) else (if a0.toList = ([98, 105, 116, 115, 104, 105, 102, 116] : List UInt8) then (some 2) else (if a0.toList = ([103, 116] : List UInt8) then (some 2) else (if a0.toList = ([103, 101] : List UInt8) then (some 2) else (if a0.toList = ([108, 116] : List UInt8) then (some 2) else (if a0.toList = ([108, 101] : List UInt8) then (some 2) else (some 0))))))))))))))) = some r := by rw [if_neg (show ¬ (false = true) by decide)] at H; exact H
        clear H
        have H := H1
        clear H1
        by_cases c13 : a0.toList = ([97, 100, 100] : List UInt8)
        · rw [if_pos c13] at H
          have c13b0 : (a0.toList == ([97, 100, 100] : List UInt8)) = true := beq_iff_eq.mpr c13
          have c13b1 : (a0.toList != ([97, 100, 100] : List UInt8)) = false := bne_eq_false_iff_eq.mpr c13
          clear c13
          obtain rfl := Option.some.inj H
          go_wp2
          go_ret
          exact ⟨by first | rfl | (simp; done) | (simp [*]; done), by repeat (first | exact Drawn0.refl _ | apply Drawn0.step)⟩
        · rw [if_neg c13] at H
          have c13b0 : (a0.toList == ([97, 100, 100] : List UInt8)) = false := beq_eq_false_iff_ne.mpr c13
          have c13b1 : (a0.toList != ([97, 100, 100] : List UInt8)) = true := bne_iff_ne.mpr c13
          by_cases c14 : a0.toList = ([115, 117, 98] : List UInt8)
          · rw [if_pos c14] at H
            have c14b0 : (a0.toList == ([115, 117, 98] : List UInt8)) = true := beq_iff_eq.mpr c14
            have c14b1 : (a0.toList != ([115, 117, 98] : List UInt8)) = false := bne_eq_false_iff_eq.mpr c14
            clear c14
            obtain rfl := Option.some.inj H
            go_wp2
            go_ret
            exact ⟨by first | rfl | (simp; done) | (simp [*]; done), by repeat (first | exact Drawn0.refl _ | apply Drawn0.step)⟩
          · rw [if_neg c14] at H
            have c14b0 : (a0.toList == ([115, 117, 98] : List UInt8)) = false := beq_eq_false_iff_ne.mpr c14
            have c14b1 : (a0.toList != ([115, 117, 98] : List UInt8)) = true := bne_iff_ne.mpr c14
            by_cases c15 : a0.toList = ([109, 117, 108] : List UInt8)
            · rw [if_pos c15] at H
              have c15b0 : (a0.toList == ([109, 117, 108] : List UInt8)) = true := beq_iff_eq.mpr c15
              have c15b1 : (a0.toList != ([109, 117, 108] : List UInt8)) = false := bne_eq_false_iff_eq.mpr c15
              clear c15
              obtain rfl := Option.some.inj H
              go_wp2
              go_ret
              exact ⟨by first | rfl | (simp; done) | (simp [*]; done), by repeat (first | exact Drawn0.refl _ | apply Drawn0.step)⟩
            · rw [if_neg c15] at H
              have c15b0 : (a0.toList == ([109, 117, 108] : List UInt8)) = false := beq_eq_false_iff_ne.mpr c15
              have c15b1 : (a0.toList != ([109, 117, 108] : List UInt8)) = true := bne_iff_ne.mpr c15
              by_cases c16 : a0.toList = ([100, 105, 118] : List UInt8)
              · rw [if_pos c16] at H
                have c16b0 : (a0.toList == ([100, 105, 118] : List UInt8)) = true := beq_iff_eq.mpr c16
                have c16b1 : (a0.toList != ([100, 105, 118] : List UInt8)) = false := bne_eq_false_iff_eq.mpr c16
                clear c16
                obtain rfl := Option.some.inj H
                go_wp2
                go_ret
                exact ⟨by first | rfl | (simp; done) | (simp [*]; done), by repeat (first | exact Drawn0.refl _ | apply Drawn0.step)⟩
              · rw [if_neg c16] at H
                have c16b0 : (a0.toList == ([100, 105, 118] : List UInt8)) = false := beq_eq_false_iff_ne.mpr c16
                have c16b1 : (a0.toList != ([100, 105, 118] : List UInt8)) = true := bne_iff_ne.mpr c16
                by_cases c17 : a0.toList = ([105, 100, 105, 118] : List UInt8)
                · rw [if_pos c17] at H
                  have c17b0 : (a0.toList == ([105, 100, 105, 118] : List UInt8)) = true := beq_iff_eq.mpr c17
                  have c17b1 : (a0.toList != ([105, 100, 105, 118] : List UInt8)) = false := bne_eq_false_iff_eq.mpr c17
                  clear c17
                  obtain rfl := Option.some.inj H
                  go_wp2
                  go_ret
                  exact ⟨by first | rfl | (simp; done) | (simp [*]; done), by repeat (first | exact Drawn0.refl _ | apply Drawn0.step)⟩
                · rw [if_neg c17] at H
                  have c17b0 : (a0.toList == ([105, 100, 105, 118] : List UInt8)) = false := beq_eq_false_iff_ne.mpr c17
                  have c17b1 : (a0.toList != ([105, 100, 105, 118] : List UInt8)) = true := bne_iff_ne.mpr c17
                  by_cases c18 : a0.toList = ([109, 111, 100] : List UInt8)
                  · rw [if_pos c18] at H
                    have c18b0 : (a0.toList == ([109, 111, 100] : List UInt8)) = true := beq_iff_eq.mpr c18
                    have c18b1 : (a0.toList != ([109, 111, 100] : List UInt8)) = false := bne_eq_false_iff_eq.mpr c18
                    clear c18
                    obtain rfl := Option.some.inj H
                    go_wp2
                    go_ret
                    exact ⟨by first | rfl | (simp; done) | (simp [*]; done), by repeat (first | exact Drawn0.refl _ | apply Drawn0.step)⟩
                  · rw [if_neg c18] at H
                    have c18b0 : (a0.toList == ([109, 111, 100] : List UInt8)) = false := beq_eq_false_iff_ne.mpr c18
                    have c18b1 : (a0.toList != ([109, 111, 100] : List UInt8)) = true := bne_iff_ne.mpr c18
                    by_cases c19 : a0.toList = ([97, 110, 100] : List UInt8)
                    · rw [if_pos c19] at H
                      have c19b0 : (a0.toList == ([97, 110, 100] : List UInt8)) = true := beq_iff_eq.mpr c19
                      have c19b1 : (a0.toList != ([97, 110, 100] : List UInt8)) = false := bne_eq_false_iff_eq.mpr c19
                      clear c19
                      obtain rfl := Option.some.inj H
                      go_wp2
                      go_ret
                      exact ⟨by first | rfl | (simp; done) | (simp [*]; done), by repeat (first | exact Drawn0.refl _ | apply Drawn0.step)⟩
                    · rw [if_neg c19] at H
                      have c19b0 : (a0.toList == ([97, 110, 100] : List UInt8)) = false := beq_eq_false_iff_ne.mpr c19
                      have c19b1 : (a0.toList != ([97, 110, 100] : List UInt8)) = true := bne_iff_ne.mpr c19
                      by_cases c20 : a0.toList = ([111, 114] : List UInt8)
                      · rw [if_pos c20] at H
                        have c20b0 : (a0.toList == ([111, 114] : List UInt8)) = true := beq_iff_eq.mpr c20
                        have c20b1 : (a0.toList != ([111, 114] : List UInt8)) = false := bne_eq_false_iff_eq.mpr c20
                        clear c20
                        obtain rfl := Option.some.inj H
                        go_wp2
                        go_ret
                        exact ⟨by first | rfl | (simp; done) | (simp [*]; done), by repeat (first | exact Drawn0.refl _ | apply Drawn0.step)⟩
                      · rw [if_neg c20] at H
                        have c20b0 : (a0.toList == ([111, 114] : List UInt8)) = false := beq_eq_false_iff_ne.mpr c20
                        have c20b1 : (a0.toList != ([111, 114] : List UInt8)) = true := bne_iff_ne.mpr c20
                        by_cases c21 : a0.toList = ([120, 111, 114] : List UInt8)
                        · rw [if_pos c21] at H
                          have c21b0 : (a0.toList == ([120, 111, 114] : List UInt8)) = true := beq_iff_eq.mpr c21
                          have c21b1 : (a0.toList != ([120, 111, 114] : List UInt8)) = false := bne_eq_false_iff_eq.mpr c21
                          clear c21
                          obtain rfl := Option.some.inj H
                          go_wp2
                          go_ret
                          exact ⟨by first | rfl | (simp; done) | (simp [*]; done), by repeat (first | exact Drawn0.refl _ | apply Drawn0.step)⟩
                        · rw [if_neg c21] at H
                          have c21b0 : (a0.toList == ([120, 111, 114] : List UInt8)) = false := beq_eq_false_iff_ne.mpr c21
                          have c21b1 : (a0.toList != ([120, 111, 114] : List UInt8)) = true := bne_iff_ne.mpr c21
                          by_cases c22 : a0.toList = ([98, 105, 116, 115, 104, 105, 102, 116] : List UInt8)
                          · rw [if_pos c22] at H
                            have c22b0 : (a0.toList == ([98, 105, 116, 115, 104, 105, 102, 116] : List UInt8)) = true := beq_iff_eq.mpr c22
                            have c22b1 : (a0.toList != ([98, 105, 116, 115, 104, 105, 102, 116] : List UInt8)) = false := bne_eq_false_iff_eq.mpr c22
                            clear c22
                            obtain rfl := Option.some.inj H
                            go_wp2
                            go_ret
                            exact ⟨by first | rfl | (simp; done) | (simp [*]; done), by repeat (first | exact Drawn0.refl _ | apply Drawn0.step)⟩
                          · rw [if_neg c22] at H
                            have c22b0 : (a0.toList == ([98, 105, 116, 115, 104, 105, 102, 116] : List UInt8)) = false := beq_eq_false_iff_ne.mpr c22
                            have c22b1 : (a0.toList != ([98, 105, 116, 115, 104, 105, 102, 116] : List UInt8)) = true := bne_iff_ne.mpr c22
                            by_cases c23 : a0.toList = ([103, 116] : List UInt8)
                            · rw [if_pos c23] at H
                              have c23b0 : (a0.toList == ([103, 116] : List UInt8)) = true := beq_iff_eq.mpr c23
                              have c23b1 : (a0.toList != ([103, 116] : List UInt8)) = false := bne_eq_false_iff_eq.mpr c23
                              clear c23
                              obtain rfl := Option.some.inj H
                              go_wp2
                              go_ret
                              exact ⟨by first | rfl | (simp; done) | (simp [*]; done), by repeat (first | exact Drawn0.refl _ | apply Drawn0.step)⟩
                            · rw [if_neg c23] at H
                              have c23b0 : (a0.toList == ([103, 116] : List UInt8)) = false := beq_eq_false_iff_ne.mpr c23
                              have c23b1 : (a0.toList != ([103, 116] : List UInt8)) = true := bne_iff_ne.mpr c23
                              by_cases c24 : a0.toList = ([103, 101] : List UInt8)
                              · rw [if_pos c24] at H
                                have c24b0 : (a0.toList == ([103, 101] : List UInt8)) = true := beq_iff_eq.mpr c24
                                have c24b1 : (a0.toList != ([103, 101] : List UInt8)) = false := bne_eq_false_iff_eq.mpr c24
                                clear c24
                                obtain rfl := Option.some.inj H
                                go_wp2
                                go_ret
                                exact ⟨by first | rfl | (simp; done) | (simp [*]; done), by repeat (first | exact Drawn0.refl _ | apply Drawn0.step)⟩
                              · rw [if_neg c24] at H
                                have c24b0 : (a0.toList == ([103, 101] : List UInt8)) = false := beq_eq_false_iff_ne.mpr c24
                                have c24b1 : (a0.toList != ([103, 101] : List UInt8)) = true := bne_iff_ne.mpr c24
                                by_cases c25 : a0.toList = ([108, 116] : List UInt8)
                                · rw [if_pos c25] at H
                                  have c25b0 : (a0.toList == ([108, 116] : List UInt8)) = true := beq_iff_eq.mpr c25
                                  have c25b1 : (a0.toList != ([108, 116] : List UInt8)) = false := bne_eq_false_iff_eq.mpr c25
                                  clear c25
                                  obtain rfl := Option.some.inj H
                                  go_wp2
                                  go_ret
                                  exact ⟨by first | rfl | (simp; done) | (simp [*]; done), by repeat (first | exact Drawn0.refl _ | apply Drawn0.step)⟩
                                · rw [if_neg c25] at H
                                  have c25b0 : (a0.toList == ([108, 116] : List UInt8)) = false := beq_eq_false_iff_ne.mpr c25
                                  have c25b1 : (a0.toList != ([108, 116] : List UInt8)) = true := bne_iff_ne.mpr c25
                                  by_cases c26 : a0.toList = ([108, 101] : List UInt8)
                                  · rw [if_pos c26] at H
                                    have c26b0 : (a0.toList == ([108, 101] : List UInt8)) = true := beq_iff_eq.mpr c26
                                    have c26b1 : (a0.toList != ([108, 101] : List UInt8)) = false := bne_eq_false_iff_eq.mpr c26
                                    clear c26
                                    obtain rfl := Option.some.inj H
                                    go_wp2
                                    go_ret
                                    exact ⟨by first | rfl | (simp; done) | (simp [*]; done), by repeat (first | exact Drawn0.refl _ | apply Drawn0.step)⟩
                                  · rw [if_neg c26] at H
                                    have c26b0 : (a0.toList == ([108, 101] : List UInt8)) = false := beq_eq_false_iff_ne.mpr c26
                                    have c26b1 : (a0.toList != ([108, 101] : List UInt8)) = true := bne_iff_ne.mpr c26
                                    obtain rfl := Option.some.inj H
                                    go_wp2
                                    go_ret
                                    exact ⟨by first | rfl | (simp; done) | (simp [*]; done), by repeat (first | exact Drawn0.refl _ | apply Drawn0.step)⟩
def mezzotintref01_Fits.f (a0 : Int) : Option (Bool) := if a0 ≥ (-2147483648) then (some (decide (a0 ≤ 2147483647))) else (some false)
set_option maxHeartbeats 8000000 in
set_option maxRecDepth 100000 in
theorem mezzotintref01_Fits.calls (a0 : Int) (r : Bool) (w : World) (h : mezzotintref01_Fits.f a0 = some r) :
    Calls Tryd.prog 37 #[.int .i64 a0] w fun e w' => e = .returned (.bool r) ∧ Drawn0 w w' := by
  have H : (if a0 ≥ (-2147483648) then (some (decide (a0 ≤ 2147483647))) else (some false)) = some r := h
  clear h
  by_cases c2 : a0 ≥ (-2147483648)
  · rw [if_pos c2] at H
    have c2b0 : decide ((-2147483648) ≤ a0) = true := decide_eq_true c2
    clear c2
    obtain rfl := Option.some.inj H
    go_enter Tryd.func37, Tryd.ntmps37
    go_wp2
    go_ret
    exact ⟨by first | rfl | (simp; done) | (simp [*]; done), by repeat (first | exact Drawn0.refl _ | apply Drawn0.step)⟩
  · rw [if_neg c2] at H
    have c2b0 : decide ((-2147483648) ≤ a0) = false := decide_eq_false c2
    clear c2
    obtain rfl := Option.some.inj H
    go_enter Tryd.func37, Tryd.ntmps37
    go_wp2
    go_ret
    exact ⟨by first | rfl | (simp; done) | (simp [*]; done), by repeat (first | exact Drawn0.refl _ | apply Drawn0.step)⟩
def mezzotintref01_Small.f (a0 : Int) : Option (Bool) := (mezzotintref01_Fits.f a0).bind fun t356 => (some t356)
set_option maxHeartbeats 8000000 in
set_option maxRecDepth 100000 in
theorem mezzotintref01_Small.calls (a0 : Int) (r : Bool) (w : World) (h : mezzotintref01_Small.f a0 = some r) :
    Calls Tryd.prog 28 #[.int .i64 a0] w fun e w' => e = .returned (.bool r) ∧ Drawn0 w w' := by
  have H : ((mezzotintref01_Fits.f a0).bind fun t356 => (some t356)) = some r := h
  clear h
  replace H := Option.bind_eq_some_iff.mp H
  obtain ⟨t356, A20, H⟩ := H
  replace H : (some t356) = some r := H
  have A2 := Aside0.mk A20
  clear A20
  obtain rfl := Option.some.inj H
  go_enter Tryd.func28, Tryd.ntmps28
  go_wp2_with (first | ((with_reducible refine gate_callee (f := 37) rfl ?_); refine goesL_ (some 4) rfl rfl Tryd.func37 (by kernel_rfl) rfl #[.int .i64 a0] rfl (by (try simp only [List.map_toArray, List.map_cons, List.map_nil]); first | done | rfl | (simp only [List.length_drop, List.length_take]; rfl)) ?_; (with_reducible refine (mezzotintref01_Fits.calls a0 t356 _ A2.out).mono ?_); rintro e w' ⟨rfl, ⟨nd, rfl⟩⟩; refine ⟨_, rfl, ?_⟩))
  go_ret
  exact ⟨by first | rfl | (simp; done) | (simp [*]; done), by repeat (first | exact Drawn0.refl _ | apply Drawn0.step)⟩
def mezzotintref01_FromInt.f (a0 : Int) : Option (Int × Int) := if a0 < (-32768) then (some (0, 11)) else (if a0 > 32767 then (some (0, 11)) else (some (wrap64 (a0 * 65536), 0)))
set_option maxHeartbeats 8000000 in
set_option maxRecDepth 100000 in
theorem mezzotintref01_FromInt.calls (a0 : Int) (r1 : Int) (r2 : Int) (w : World) (h : mezzotintref01_FromInt.f a0 = some (r1, r2)) :
    Calls Tryd.prog 58 #[.int .i64 a0] w fun e w' => e = .returned (.tuple #[.int .i64 r1, .int .i64 r2]) ∧ Drawn0 w w' := by
  have H : (if a0 < (-32768) then (some (0, 11)) else (if a0 > 32767 then (some (0, 11)) else (some (wrap64 (a0 * 65536), 0)))) = some (r1, r2) := h
  clear h
  by_cases c2 : a0 < (-32768)
  · rw [if_pos c2] at H
    have c2b0 : decide (a0 < (-32768)) = true := decide_eq_true c2
    clear c2
    simp only [Option.some.injEq, Prod.mk.injEq] at H
    obtain ⟨rfl, rfl⟩ := H
    go_enter Tryd.func58, Tryd.ntmps58
    go_wp2
    go_ret2
    exact ⟨by first | rfl | (simp; done) | (simp [*]; done), by repeat (first | exact Drawn0.refl _ | apply Drawn0.step)⟩
  · rw [if_neg c2] at H
    have c2b0 : decide (a0 < (-32768)) = false := decide_eq_false c2
    clear c2
    by_cases c3 : a0 > 32767
    · rw [if_pos c3] at H
      have c3b0 : decide (32767 < a0) = true := decide_eq_true c3
      clear c3
      simp only [Option.some.injEq, Prod.mk.injEq] at H
      obtain ⟨rfl, rfl⟩ := H
      go_enter Tryd.func58, Tryd.ntmps58
      go_wp2
      go_ret2
      exact ⟨by first | rfl | (simp; done) | (simp [*]; done), by repeat (first | exact Drawn0.refl _ | apply Drawn0.step)⟩
    · rw [if_neg c3] at H
      have c3b0 : decide (32767 < a0) = false := decide_eq_false c3
      clear c3
      simp only [Option.some.injEq, Prod.mk.injEq] at H
      obtain ⟨rfl, rfl⟩ := H
      go_enter Tryd.func58, Tryd.ntmps58
      go_wp2
      go_ret2
      exact ⟨by first | rfl | (simp; done) | (simp [*]; done), by repeat (first | exact Drawn0.refl _ | apply Drawn0.step)⟩
def mezzotintref01_keep.f (a0 : Int) : Option (Int × Int) := (mezzotintref01_Fits.f a0).bind fun t357 => (if t357 = true then (some (a0, 0)) else (some (0, 18)))
set_option maxHeartbeats 8000000 in
set_option maxRecDepth 100000 in
theorem mezzotintref01_keep.calls (a0 : Int) (r1 : Int) (r2 : Int) (w : World) (h : mezzotintref01_keep.f a0 = some (r1, r2)) :
    Calls Tryd.prog 59 #[.int .i64 a0] w fun e w' => e = .returned (.tuple #[.int .i64 r1, .int .i64 r2]) ∧ Drawn0 w w' := by
  have H : ((mezzotintref01_Fits.f a0).bind fun t357 => (if t357 = true then (some (a0, 0)) else (some (0, 18)))) = some (r1, r2) := h
  clear h
  replace H := Option.bind_eq_some_iff.mp H
  obtain ⟨t357, A20, H⟩ := H
  replace H : (if t357 = true then (some (a0, 0)) else (some (0, 18))) = some (r1, r2) := H
  have A2 := Aside0.mk A20
  clear A20
  by_cases c3 : t357 = true
  · subst c3
    have H1 : (some (a0, 0)) = some (r1, r2) := by rw [if_pos rfl] at H; exact H
    clear H
    have H := H1
    clear H1
    simp only [Option.some.injEq, Prod.mk.injEq] at H
    obtain ⟨rfl, rfl⟩ := H
    go_enter Tryd.func59, Tryd.ntmps59
    go_wp2_with (first | ((with_reducible refine gate_callee (f := 37) rfl ?_); refine goesL_ (some 5) rfl rfl Tryd.func37 (by kernel_rfl) rfl #[.int .i64 a0] rfl (by (try simp only [List.map_toArray, List.map_cons, List.map_nil]); first | done | rfl | (simp only [List.length_drop, List.length_take]; rfl)) ?_; (with_reducible refine (mezzotintref01_Fits.calls a0 true _ A2.out).mono ?_); rintro e w' ⟨rfl, ⟨nd, rfl⟩⟩; refine ⟨_, rfl, ?_⟩))
    go_ret2
    exact ⟨by first | rfl | (simp; done) | (simp [*]; done), by repeat (first | exact Drawn0.refl _ | apply Drawn0.step)⟩
  · replace c3 := Bool.eq_false_iff.mpr c3
    subst c3
    have H1 : (some (0, 18)) = some (r1, r2) := by rw [if_neg (show ¬ (false = true) by decide)] at H; exact H
    clear H
    have H := H1
    clear H1
    simp only [Option.some.injEq, Prod.mk.injEq] at H
    obtain ⟨rfl, rfl⟩ := H
    go_enter Tryd.func59, Tryd.ntmps59
    go_wp2_with (first | ((with_reducible refine gate_callee (f := 37) rfl ?_); refine goesL_ (some 5) rfl rfl Tryd.func37 (by kernel_rfl) rfl #[.int .i64 a0] rfl (by (try simp only [List.map_toArray, List.map_cons, List.map_nil]); first | done | rfl | (simp only [List.length_drop, List.length_take]; rfl)) ?_; (with_reducible refine (mezzotintref01_Fits.calls a0 false _ A2.out).mono ?_); rintro e w' ⟨rfl, ⟨nd, rfl⟩⟩; refine ⟨_, rfl, ?_⟩))
    go_ret2
    exact ⟨by first | rfl | (simp; done) | (simp [*]; done), by repeat (first | exact Drawn0.refl _ | apply Drawn0.step)⟩
def mezzotintref01_Sub.f (a0 : Int) (a1 : Int) : Option (Int × Int) := (mezzotintref01_Fits.f a0).bind fun t358 => (if t358 = true then ((mezzotintref01_Fits.f a1).bind fun t359 => (if t359 = true then ((mezzotintref01_keep.f (wrap64 (a0 - a1))).bind fun bt360 => (some (bt360.1, bt360.2))) else (some (0, 11)))) else (some (0, 11)))
set_option maxHeartbeats 8000000 in
set_option maxRecDepth 100000 in
theorem mezzotintref01_Sub.calls (a0 : Int) (a1 : Int) (r1 : Int) (r2 : Int) (w : World) (h : mezzotintref01_Sub.f a0 a1 = some (r1, r2)) :
    Calls Tryd.prog 32 #[.int .i64 a0, .int .i64 a1] w fun e w' => e = .returned (.tuple #[.int .i64 r1, .int .i64 r2]) ∧ Drawn0 w w' := by
  have H : ((mezzotintref01_Fits.f a0).bind fun t358 => (if t358 = true then ((mezzotintref01_Fits.f a1).bind fun t359 => (if t359 = true then ((mezzotintref01_keep.f (wrap64 (a0 - a1))).bind fun bt360 => (some (bt360.1, bt360.2))) else (some (0, 11)))) else (some (0, 11)))) = some (r1, r2) := h
  clear h
  replace H := Option.bind_eq_some_iff.mp H
  obtain ⟨t358, A30, H⟩ := H
  replace H : (if t358 = true then ((mezzotintref01_Fits.f a1).bind fun t359 => (if t359 = true then ((mezzotintref01_keep.f (wrap64 (a0 - a1))).bind fun bt360 => (some (bt360.1, bt360.2))) else (some (0, 11)))) else (some (0, 11))) = some (r1, r2) := H
  have A3 := Aside0.mk A30
  clear A30
  by_cases c4 : t358 = true
  · subst c4
    have H1 : ((mezzotintref01_Fits.f a1).bind fun t359 => (if t359 = true then ((mezzotintref01_keep.f (wrap64 (a0 - a1))).bind fun bt360 => (some (bt360.1, bt360.2))) else (some (0, 11)))) = some (r1, r2) := by rw [if_pos rfl] at H; exact H
    clear H
    have H := H1
    clear H1
    replace H := Option.bind_eq_some_iff.mp H
    obtain ⟨t359, A50, H⟩ := H
    replace H : (if t359 = true then ((mezzotintref01_keep.f (wrap64 (a0 - a1))).bind fun bt360 => (some (bt360.1, bt360.2))) else (some (0, 11))) = some (r1, r2) := H
    have A5 := Aside0.mk A50
    clear A50
    by_cases c6 : t359 = true
    · subst c6
      have H1 : ((mezzotintref01_keep.f (wrap64 (a0 - a1))).bind fun bt360 => (some (bt360.1, bt360.2))) = some (r1, r2) := by rw [if_pos rfl] at H; exact H
      clear H
      have H := H1
      clear H1
      replace H := Option.bind_eq_some_iff.mp H
      obtain ⟨⟨t360, t361⟩, A70, H⟩ := H
      replace H : (some (t360, t361)) = some (r1, r2) := H
      have A7 := Aside0.mk A70
      clear A70
      simp only [Option.some.injEq, Prod.mk.injEq] at H
      obtain ⟨rfl, rfl⟩ := H
      go_enter Tryd.func32, Tryd.ntmps32
      go_wp2_with (first | ((with_reducible refine gate_callee (f := 37) rfl ?_); refine goesL_ (some 7) rfl rfl Tryd.func37 (by kernel_rfl) rfl #[.int .i64 a0] rfl (by (try simp only [List.map_toArray, List.map_cons, List.map_nil]); first | done | rfl | (simp only [List.length_drop, List.length_take]; rfl)) ?_; (with_reducible refine (mezzotintref01_Fits.calls a0 true _ A3.out).mono ?_); rintro e w' ⟨rfl, ⟨nd, rfl⟩⟩; refine ⟨_, rfl, ?_⟩) | (go_at_call 37; (with_reducible refine (mezzotintref01_Fits.calls a1 true _ A5.out).mono ?_); rintro e w' ⟨rfl, ⟨nd, rfl⟩⟩) | ((with_reducible refine gate_callee (f := 59) rfl ?_); refine goesL_ (some 17) rfl rfl Tryd.func59 (by kernel_rfl) rfl #[.int .i64 (wrap64 (a0 - a1))] rfl (by (try simp only [List.map_toArray, List.map_cons, List.map_nil]); first | done | rfl | (simp only [List.length_drop, List.length_take]; rfl)) ?_; (with_reducible refine (mezzotintref01_keep.calls (wrap64 (a0 - a1)) t360 t361 _ A7.out).mono ?_); rintro e w' ⟨rfl, ⟨nd, rfl⟩⟩; refine ⟨_, rfl, ?_⟩))
      go_ret2
      exact ⟨by first | rfl | (simp; done) | (simp [*]; done), by repeat (first | exact Drawn0.refl _ | apply Drawn0.step)⟩
    · replace c6 := Bool.eq_false_iff.mpr c6
      subst c6
      have H1 : (some (0, 11)) = some (r1, r2) := by rw [if_neg (show ¬ (false = true) by decide)] at H; exact H
      clear H
      have H := H1
      clear H1
      simp only [Option.some.injEq, Prod.mk.injEq] at H
      obtain ⟨rfl, rfl⟩ := H
      go_enter Tryd.func32, Tryd.ntmps32
      go_wp2_with (first | ((with_reducible refine gate_callee (f := 37) rfl ?_); refine goesL_ (some 7) rfl rfl Tryd.func37 (by kernel_rfl) rfl #[.int .i64 a0] rfl (by (try simp only [List.map_toArray, List.map_cons, List.map_nil]); first | done | rfl | (simp only [List.length_drop, List.length_take]; rfl)) ?_; (with_reducible refine (mezzotintref01_Fits.calls a0 true _ A3.out).mono ?_); rintro e w' ⟨rfl, ⟨nd, rfl⟩⟩; refine ⟨_, rfl, ?_⟩) | (go_at_call 37; (with_reducible refine (mezzotintref01_Fits.calls a1 false _ A5.out).mono ?_); rintro e w' ⟨rfl, ⟨nd, rfl⟩⟩))
      go_ret2
      exact ⟨by first | rfl | (simp; done) | (simp [*]; done), by repeat (first | exact Drawn0.refl _ | apply Drawn0.step)⟩
  · replace c4 := Bool.eq_false_iff.mpr c4
    subst c4
    have H1 : (some (0, 11)) = some (r1, r2) := by rw [if_neg (show ¬ (false = true) by decide)] at H; exact H
    clear H
    have H := H1
    clear H1
    simp only [Option.some.injEq, Prod.mk.injEq] at H
    obtain ⟨rfl, rfl⟩ := H
    go_enter Tryd.func32, Tryd.ntmps32
    go_wp2_with (first | ((with_reducible refine gate_callee (f := 37) rfl ?_); refine goesL_ (some 7) rfl rfl Tryd.func37 (by kernel_rfl) rfl #[.int .i64 a0] rfl (by (try simp only [List.map_toArray, List.map_cons, List.map_nil]); first | done | rfl | (simp only [List.length_drop, List.length_take]; rfl)) ?_; (with_reducible refine (mezzotintref01_Fits.calls a0 false _ A3.out).mono ?_); rintro e w' ⟨rfl, ⟨nd, rfl⟩⟩; refine ⟨_, rfl, ?_⟩))
    go_ret2
    exact ⟨by first | rfl | (simp; done) | (simp [*]; done), by repeat (first | exact Drawn0.refl _ | apply Drawn0.step)⟩
def mezzotintref01_below.f (a0 : Int) : Option (Int) := if (Int.tmod a0 65536) < 0 then (some (wrap64 (a0 - (wrap64 ((Int.tmod a0 65536) + 65536))))) else (some (wrap64 (a0 - (Int.tmod a0 65536))))
set_option maxHeartbeats 8000000 in
set_option maxRecDepth 100000 in
theorem mezzotintref01_below.calls (a0 : Int) (r : Int) (w : World) (h : mezzotintref01_below.f a0 = some r) :
    Calls Tryd.prog 76 #[.int .i64 a0] w fun e w' => e = .returned (.int .i64 r) ∧ Drawn0 w w' := by
  have H : (if (Int.tmod a0 65536) < 0 then (some (wrap64 (a0 - (wrap64 ((Int.tmod a0 65536) + 65536))))) else (some (wrap64 (a0 - (Int.tmod a0 65536))))) = some r := h
  clear h
  by_cases c2 : (Int.tmod a0 65536) < 0
  · rw [if_pos c2] at H
    have c2b0 : decide ((Int.tmod a0 65536) < 0) = true := decide_eq_true c2
    clear c2
    obtain rfl := Option.some.inj H
    go_enter Tryd.func76, Tryd.ntmps76
    go_wp2
    go_ret
    exact ⟨by first | rfl | (simp; done) | (simp [*]; done), by repeat (first | exact Drawn0.refl _ | apply Drawn0.step)⟩
  · rw [if_neg c2] at H
    have c2b0 : decide ((Int.tmod a0 65536) < 0) = false := decide_eq_false c2
    clear c2
    obtain rfl := Option.some.inj H
    go_enter Tryd.func76, Tryd.ntmps76
    go_wp2
    go_ret
    exact ⟨by first | rfl | (simp; done) | (simp [*]; done), by repeat (first | exact Drawn0.refl _ | apply Drawn0.step)⟩
end Go.Proofs.YtmbnlklinmmkdaaDoor.PArithDoes
