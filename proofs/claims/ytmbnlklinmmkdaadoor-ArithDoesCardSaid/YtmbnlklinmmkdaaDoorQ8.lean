-- Walks that print.sh wrote for ArithDoes, mended; what the claim does not use is struck out.
import Derived.Test.YtmbnlklinmmkdaaDoorQ0
import Derived.Test.YtmbnlklinmmkdaaDoorQ7
namespace Go.Proofs.YtmbnlklinmmkdaaDoor.PArithDoes
open Go.RowKit Go.Proofs.YtmbnlklinmmkdaaDoorW.PrintWords Go.Proofs.YtmbnlklinmmkdaaDoorW.PrintLast Go.Proofs.YtmbnlklinmmkdaaDoorW.PrintMore
attribute [local go_sem] max2_int min2_int max_two min_two max_three min_three max_four min_four   -- for this text's walks alone
set_option linter.unusedVariables false
set_option linter.unusedSimpArgs false
def tabL : List UInt8 := (((([48, 32, 49, 49, 52, 52, 32, 50, 50, 56, 55, 32, 51, 52, 51, 48, 32, 52, 53, 55, 50, 32, 53, 55, 49, 50, 32, 54, 56, 53, 48, 32, 55].append [57,
    56, 55, 32, 57, 49, 50, 49, 32, 49, 48, 50, 53, 50, 32, 49, 49, 51, 56, 48, 32, 49, 50, 53, 48, 53, 32, 49, 51, 54, 50, 54, 32]).append ([49, 52, 55,
    52, 50, 32, 49, 53, 56, 53, 53, 32, 49, 54, 57, 54, 50, 32, 49, 56, 48, 54, 52, 32, 49, 57, 49, 54, 49, 32, 50, 48, 50].append [53, 50, 32, 50, 49, 51,
    51, 54, 32, 50, 50, 52, 49, 53, 32, 50, 51, 52, 56, 54, 32, 50, 52, 53, 53, 48, 32, 50, 53, 54, 48, 55, 32, 50])).append (([54, 54, 53, 54, 32, 50, 55,
    54, 57, 55, 32, 50, 56, 55, 50, 57, 32, 50, 57, 55, 53, 51, 32, 51, 48, 55, 54, 55, 32, 51, 49, 55, 55].append [50, 32, 51, 50, 55, 54, 56, 32, 51, 51,
    55, 53, 52, 32, 51, 52, 55, 50, 57, 32, 51, 53, 54, 57, 51, 32, 51, 54, 54, 52, 55, 32, 51]).append ([55, 53, 57, 48, 32, 51, 56, 53, 50, 49, 32, 51,
    57, 52, 52, 49, 32, 52, 48, 51, 52, 56, 32, 52, 49, 50, 52, 51, 32, 52, 50, 49, 50].append [54, 32, 52, 50, 57, 57, 53, 32, 52, 51, 56, 53, 50, 32, 52,
    52, 54, 57, 53, 32, 52, 53, 53, 50, 53, 32, 52, 54, 51, 52, 49, 32, 52, 55]))).append ((([49, 52, 51, 32, 52, 55, 57, 51, 48, 32, 52, 56, 55, 48, 51,
    32, 52, 57, 52, 54, 49, 32, 53, 48, 50, 48, 51, 32, 53, 48, 57, 51, 49].append [32, 53, 49, 54, 52, 51, 32, 53, 50, 51, 51, 57, 32, 53, 51, 48, 50, 48,
    32, 53, 51, 54, 56, 52, 32, 53, 52, 51, 51, 50, 32, 53, 52]).append ([57, 54, 51, 32, 53, 53, 53, 55, 56, 32, 53, 54, 49, 55, 53, 32, 53, 54, 55, 53,
    54, 32, 53, 55, 51, 49, 57, 32, 53, 55, 56, 54, 53].append [32, 53, 56, 51, 57, 51, 32, 53, 56, 57, 48, 51, 32, 53, 57, 51, 57, 54, 32, 53, 57, 56, 55,
    48, 32, 54, 48, 51, 50, 54, 32, 54, 48, 55])).append (([54, 52, 32, 54, 49, 49, 56, 51, 32, 54, 49, 53, 56, 52, 32, 54, 49, 57, 54, 54, 32, 54, 50, 51,
    50, 56, 32, 54, 50, 54, 55, 50, 32].append [54, 50, 57, 57, 55, 32, 54, 51, 51, 48, 51, 32, 54, 51, 53, 56, 57, 32, 54, 51, 56, 53, 54, 32, 54, 52, 49,
    48, 52, 32, 54, 52, 51, 51]).append ([50, 32, 54, 52, 53, 52, 48, 32, 54, 52, 55, 50, 57, 32, 54, 52, 56, 57, 56, 32, 54, 53, 48, 52, 56, 32, 54, 53,
    49, 55, 55, 32, 54].append [53, 50, 56, 55, 32, 54, 53, 51, 55, 54, 32, 54, 53, 52, 52, 54, 32, 54, 53, 52, 57, 54, 32, 54, 53, 53, 50, 54, 32, 54, 53,
    53, 51, 54]))))
def tab : ByteArray := ⟨tabL.toArray⟩
theorem tab_lit : (⟨List.toArray (((([48, 32, 49, 49, 52, 52, 32, 50, 50, 56, 55, 32, 51, 52, 51, 48, 32, 52, 53, 55, 50, 32, 53, 55, 49, 50, 32, 54, 56, 53, 48, 32, 55].append [57,
    56, 55, 32, 57, 49, 50, 49, 32, 49, 48, 50, 53, 50, 32, 49, 49, 51, 56, 48, 32, 49, 50, 53, 48, 53, 32, 49, 51, 54, 50, 54, 32]).append ([49, 52, 55,
    52, 50, 32, 49, 53, 56, 53, 53, 32, 49, 54, 57, 54, 50, 32, 49, 56, 48, 54, 52, 32, 49, 57, 49, 54, 49, 32, 50, 48, 50].append [53, 50, 32, 50, 49, 51,
    51, 54, 32, 50, 50, 52, 49, 53, 32, 50, 51, 52, 56, 54, 32, 50, 52, 53, 53, 48, 32, 50, 53, 54, 48, 55, 32, 50])).append (([54, 54, 53, 54, 32, 50, 55,
    54, 57, 55, 32, 50, 56, 55, 50, 57, 32, 50, 57, 55, 53, 51, 32, 51, 48, 55, 54, 55, 32, 51, 49, 55, 55].append [50, 32, 51, 50, 55, 54, 56, 32, 51, 51,
    55, 53, 52, 32, 51, 52, 55, 50, 57, 32, 51, 53, 54, 57, 51, 32, 51, 54, 54, 52, 55, 32, 51]).append ([55, 53, 57, 48, 32, 51, 56, 53, 50, 49, 32, 51,
    57, 52, 52, 49, 32, 52, 48, 51, 52, 56, 32, 52, 49, 50, 52, 51, 32, 52, 50, 49, 50].append [54, 32, 52, 50, 57, 57, 53, 32, 52, 51, 56, 53, 50, 32, 52,
    52, 54, 57, 53, 32, 52, 53, 53, 50, 53, 32, 52, 54, 51, 52, 49, 32, 52, 55]))).append ((([49, 52, 51, 32, 52, 55, 57, 51, 48, 32, 52, 56, 55, 48, 51,
    32, 52, 57, 52, 54, 49, 32, 53, 48, 50, 48, 51, 32, 53, 48, 57, 51, 49].append [32, 53, 49, 54, 52, 51, 32, 53, 50, 51, 51, 57, 32, 53, 51, 48, 50, 48,
    32, 53, 51, 54, 56, 52, 32, 53, 52, 51, 51, 50, 32, 53, 52]).append ([57, 54, 51, 32, 53, 53, 53, 55, 56, 32, 53, 54, 49, 55, 53, 32, 53, 54, 55, 53,
    54, 32, 53, 55, 51, 49, 57, 32, 53, 55, 56, 54, 53].append [32, 53, 56, 51, 57, 51, 32, 53, 56, 57, 48, 51, 32, 53, 57, 51, 57, 54, 32, 53, 57, 56, 55,
    48, 32, 54, 48, 51, 50, 54, 32, 54, 48, 55])).append (([54, 52, 32, 54, 49, 49, 56, 51, 32, 54, 49, 53, 56, 52, 32, 54, 49, 57, 54, 54, 32, 54, 50, 51,
    50, 56, 32, 54, 50, 54, 55, 50, 32].append [54, 50, 57, 57, 55, 32, 54, 51, 51, 48, 51, 32, 54, 51, 53, 56, 57, 32, 54, 51, 56, 53, 54, 32, 54, 52, 49,
    48, 52, 32, 54, 52, 51, 51]).append ([50, 32, 54, 52, 53, 52, 48, 32, 54, 52, 55, 50, 57, 32, 54, 52, 56, 57, 56, 32, 54, 53, 48, 52, 56, 32, 54, 53,
    49, 55, 55, 32, 54].append [53, 50, 56, 55, 32, 54, 53, 51, 55, 54, 32, 54, 53, 52, 52, 54, 32, 54, 53, 52, 57, 54, 32, 54, 53, 53, 50, 54, 32, 54, 53,
    53, 51, 54]))))⟩ : ByteArray) = tab := rfl
def mezzotintref01_sine.l0 : Nat → Int → ByteArray → Int → Int → Option (Int)
  | 0, _, _, _, _ => none
  | k + 1, x0, x3, x4, x5 => if x5 < (x3.size : Int) then (if 0 ≤ x5 then (if (bt x3 x5) = 32 then (if x0 = 0 then (some x4) else (mezzotintref01_sine.l0 k (wrap64 (x0 - 1)) x3 0 (wrap64 (x5 + 1)))) else (mezzotintref01_sine.l0 k x0 x3 (wrap64 ((wrap64 (x4 * 10)) + (((bt x3 x5) - 48) % 256))) (wrap64 (x5 + 1)))) else (none)) else (some x4)
def mezzotintref01_sine.f (k : Nat) (a0 : Int) : Option (Int) := mezzotintref01_sine.l0 k a0 tab 0 0
theorem mezzotintref01_sine.mono_l : ∀ k, (∀ y0 y1 y2 y3, LeO (mezzotintref01_sine.l0 k y0 y1 y2 y3) (mezzotintref01_sine.l0 (k + 1) y0 y1 y2 y3))
  | 0 => fun _ _ _ _ r h => by simp [mezzotintref01_sine.l0] at h
  | k + 1 => by
    have ih0 := mezzotintref01_sine.mono_l k
    · intro y0 y1 y2 y3
      unfold mezzotintref01_sine.l0
      repeat' first
      | (with_reducible exact ih0 _ _ _ _)
      | (with_reducible exact LeO.refl _)
      | (with_reducible exact LeO.none _)
      | (with_reducible refine LeO.ite ?_ ?_)
      | (with_reducible refine LeO.bind ?_ (fun _ => ?_))
      | exact ih0 _ _ _ _
      | exact LeO.none _
      | refine LeO.ite ?_ ?_
      | refine LeO.bind ?_ (fun _ => ?_)
theorem mezzotintref01_sine.mono : ∀ a0 k, LeO (mezzotintref01_sine.f k a0) (mezzotintref01_sine.f (k + 1) a0) := by
  intro a0 k
  have ih0 := mezzotintref01_sine.mono_l k
  unfold mezzotintref01_sine.f
  repeat' first
      | (with_reducible exact ih0 _ _ _ _)
      | (with_reducible exact LeO.refl _)
      | (with_reducible exact LeO.none _)
      | (with_reducible refine LeO.ite ?_ ?_)
      | (with_reducible refine LeO.bind ?_ (fun _ => ?_))
      | exact ih0 _ _ _ _
      | exact LeO.none _
      | refine LeO.ite ?_ ?_
      | refine LeO.bind ?_ (fun _ => ?_)
set_option maxHeartbeats 8000000 in
set_option maxRecDepth 100000 in
theorem mezzotintref01_sine.calls (k : Nat) (a0 : Int) (r : Int) (w : World) (h : mezzotintref01_sine.f k a0 = some r) :
    Calls Tryd.prog 86 #[.int .i64 a0] w fun e w' => e = .returned (.int .i64 r) ∧ Drawn0 w w' := by
  have H : (mezzotintref01_sine.l0 k a0 tab 0 0) = some r := h
  clear h
  have H' := Aside0.mk H
  clear H
  go_enter Tryd.func86, Tryd.ntmps86
  go_wp2
  rw [tab_lit]
  go_loopg [0, 4, 5] k (fun kq v0 v4 v5 w' => ∃ (x0_1 : Int) (x4_1 : Int) (x5_1 : Int), v0 = .int .i64 x0_1 ∧ v4 = .int .i64 x4_1 ∧ v5 = .int .i64 x5_1 ∧ Aside0 (mezzotintref01_sine.l0 kq x0_1 tab x4_1 x5_1 = some r) ∧ Aside0 (kq ≤ k) ∧ Drawn0 w w')
  case atStart => exact ⟨(a0), (0), (0), (by first | rfl | (simp; done) | (simp [*]; done)), (by first | rfl | (simp; done) | (simp [*]; done)), (by first | rfl | (simp; done) | (simp [*]; done)), H', ⟨Nat.le_refl _⟩, by repeat (first | exact Drawn0.refl _ | apply Drawn0.step)⟩
  case round =>
    clear H'
    obtain ⟨x0_1, x4_1, x5_1, rfl, rfl, rfl, HA, HK1, ⟨m1, rfl⟩⟩ := hrel
    cases gk with
    | zero => exact absurd HA.out (by simp [mezzotintref01_sine.l0])
    | succ k1 =>
      have H := HA.out
      clear HA
      simp only [mezzotintref01_sine.l0] at H
      by_cases c2 : x5_1 < (tab.size : Int)
      · rw [if_pos c2] at H
        have c2b0 : decide (x5_1 < (tab.size : Int)) = true := decide_eq_true c2
        clear c2
        by_cases c3 : 0 ≤ x5_1
        · rw [if_pos c3] at H
          have c3b0 : decide (0 ≤ x5_1) = true := decide_eq_true c3
          clear c3
          by_cases c5 : (bt tab x5_1) = 32
          · rw [if_pos c5] at H
            have c5b0 : ((bt tab x5_1) == 32) = true := beq_iff_eq.mpr c5
            have c5b1 : ((bt tab x5_1) != 32) = false := bne_eq_false_iff_eq.mpr c5
            clear c5
            by_cases c6 : x0_1 = 0
            · rw [if_pos c6] at H
              have c6b0 : (x0_1 == 0) = true := beq_iff_eq.mpr c6
              have c6b1 : (x0_1 != 0) = false := bne_eq_false_iff_eq.mpr c6
              clear c6
              obtain rfl := Option.some.inj H
              have p4 : 0 ≤ (x5_1 : Int) := of_decide_eq_true (by first | (with_reducible assumption) | assumption)
              have q4 : x5_1 < (tab.size : Int) := of_decide_eq_true (by first | (with_reducible assumption) | assumption)
              have hx4 := bt_at tab x5_1
              replace p4 := eq_true p4
              replace q4 := eq_true q4
              go_wp2
              go_ret
              exact ⟨by first | rfl | (simp; done) | (simp [*]; done), by repeat (first | exact Drawn0.refl _ | apply Drawn0.step)⟩
            · rw [if_neg c6] at H
              have c6b0 : (x0_1 == 0) = false := beq_eq_false_iff_ne.mpr c6
              have c6b1 : (x0_1 != 0) = true := bne_iff_ne.mpr c6
              have H' := Aside0.mk H
              clear H
              have p4 : 0 ≤ (x5_1 : Int) := of_decide_eq_true (by first | (with_reducible assumption) | assumption)
              have q4 : x5_1 < (tab.size : Int) := of_decide_eq_true (by first | (with_reducible assumption) | assumption)
              have hx4 := bt_at tab x5_1
              replace p4 := eq_true p4
              replace q4 := eq_true q4
              go_wp2
              go_roundg k1
              case measure => have := HK1.out; omega
              case rel => exact ⟨(wrap64 (x0_1 - 1)), (0), (wrap64 (x5_1 + 1)), (by first | rfl | (simp; done) | (simp [*]; done)), (by first | rfl | (simp; done) | (simp [*]; done)), (by first | rfl | (simp; done) | (simp [*]; done)), H', ⟨by have := HK1.out; omega⟩, by repeat (first | exact Drawn0.refl _ | apply Drawn0.step)⟩
          · rw [if_neg c5] at H
            have c5b0 : ((bt tab x5_1) == 32) = false := beq_eq_false_iff_ne.mpr c5
            have c5b1 : ((bt tab x5_1) != 32) = true := bne_iff_ne.mpr c5
            have H' := Aside0.mk H
            clear H
            have p4 : 0 ≤ (x5_1 : Int) := of_decide_eq_true (by first | (with_reducible assumption) | assumption)
            have q4 : x5_1 < (tab.size : Int) := of_decide_eq_true (by first | (with_reducible assumption) | assumption)
            have hx4 := bt_at tab x5_1
            replace p4 := eq_true p4
            replace q4 := eq_true q4
            have p7 : 0 ≤ (x5_1 : Int) := of_decide_eq_true (by first | (with_reducible assumption) | assumption)
            have q7 : x5_1 < (tab.size : Int) := of_decide_eq_true (by first | (with_reducible assumption) | assumption)
            have hx7 := bt_at tab x5_1
            replace p7 := eq_true p7
            replace q7 := eq_true q7
            go_wp2
            go_roundg k1
            case measure => have := HK1.out; omega
            case rel => exact ⟨(x0_1), (wrap64 ((wrap64 (x4_1 * 10)) + (((bt tab x5_1) - 48) % 256))), (wrap64 (x5_1 + 1)), (by first | rfl | (simp; done) | (simp [*]; done)), (by first | rfl | (simp; done) | (simp [*]; done)), (by first | rfl | (simp; done) | (simp [*]; done)), H', ⟨by have := HK1.out; omega⟩, by repeat (first | exact Drawn0.refl _ | apply Drawn0.step)⟩
        · rw [if_neg c3] at H
          exact absurd H (by simp)
      · rw [if_neg c2] at H
        have c2b0 : decide (x5_1 < (tab.size : Int)) = false := decide_eq_false c2
        clear c2
        obtain rfl := Option.some.inj H
        go_wp2
        go_ret
        exact ⟨by first | rfl | (simp; done) | (simp [*]; done), by repeat (first | exact Drawn0.refl _ | apply Drawn0.step)⟩
mutual
def mezzotintref01_Sine.j0 : Nat → Int → Option (Int)
  | 0, _ => none
  | k + 1, x0 => if x0 > 180 then ((mezzotintref01_Sine.f k (wrap64 (x0 - 180))).bind fun t363 => (some (wrap64 (-t363)))) else (if x0 > 90 then ((mezzotintref01_sine.f k (wrap64 (180 - x0))).bind fun t364 => (some t364)) else ((mezzotintref01_sine.f k x0).bind fun t365 => (some t365)))
def mezzotintref01_Sine.f : Nat → Int → Option (Int)
  | 0, _ => none
  | k + 1, a0 => if (Int.tmod a0 360) < 0 then (mezzotintref01_Sine.j0 k (wrap64 ((Int.tmod a0 360) + 360))) else (mezzotintref01_Sine.j0 k (Int.tmod a0 360))
end
theorem mezzotintref01_Sine.mono_l : ∀ k, (∀ y0, LeO (mezzotintref01_Sine.f k y0) (mezzotintref01_Sine.f (k + 1) y0)) ∧ (∀ y0, LeO (mezzotintref01_Sine.j0 k y0) (mezzotintref01_Sine.j0 (k + 1) y0))
  | 0 => ⟨fun _ r h => by simp [mezzotintref01_Sine.f] at h, fun _ r h => by simp [mezzotintref01_Sine.j0] at h⟩
  | k + 1 => by
    obtain ⟨ih0, ih1⟩ := mezzotintref01_Sine.mono_l k
    refine ⟨?_, ?_⟩
    · intro y0
      unfold mezzotintref01_Sine.f
      repeat' first
      | (with_reducible exact ih0 _)
      | (with_reducible exact ih1 _)
      | (with_reducible exact mezzotintref01_sine.mono _ _)
      | (with_reducible exact LeO.refl _)
      | (with_reducible exact LeO.none _)
      | (with_reducible refine LeO.ite ?_ ?_)
      | (with_reducible refine LeO.bind ?_ (fun _ => ?_))
      | exact ih0 _
      | exact ih1 _
      | exact mezzotintref01_sine.mono _ _
      | exact LeO.none _
      | refine LeO.ite ?_ ?_
      | refine LeO.bind ?_ (fun _ => ?_)
    · intro y0
      unfold mezzotintref01_Sine.j0
      repeat' first
      | (with_reducible exact ih0 _)
      | (with_reducible exact ih1 _)
      | (with_reducible exact mezzotintref01_sine.mono _ _)
      | (with_reducible exact LeO.refl _)
      | (with_reducible exact LeO.none _)
      | (with_reducible refine LeO.ite ?_ ?_)
      | (with_reducible refine LeO.bind ?_ (fun _ => ?_))
      | exact ih0 _
      | exact ih1 _
      | exact mezzotintref01_sine.mono _ _
      | exact LeO.none _
      | refine LeO.ite ?_ ?_
      | refine LeO.bind ?_ (fun _ => ?_)
theorem mezzotintref01_Sine.mono : ∀ a0 k, LeO (mezzotintref01_Sine.f k a0) (mezzotintref01_Sine.f (k + 1) a0) := by
  intro a0 k
  obtain ⟨ih0, ih1⟩ := mezzotintref01_Sine.mono_l k
  exact ih0 a0
set_option maxHeartbeats 8000000 in
set_option maxRecDepth 100000 in
theorem mezzotintref01_Sine.calls (k : Nat) : ∀ (a0 : Int) (r : Int) (w : World) (h : mezzotintref01_Sine.f k a0 = some r),
    Calls Tryd.prog 77 #[.int .i64 a0] w fun e w' => e = .returned (.int .i64 r) ∧ Drawn0 w w' := by
  induction k using Nat.strongRecOn with
  | _ k ih =>
  intro a0 r w h
  cases k with
  | zero => exact absurd h (by simp [mezzotintref01_Sine.f])
  | succ k =>
  simp only [mezzotintref01_Sine.f] at h
  have H : (if (Int.tmod a0 360) < 0 then (mezzotintref01_Sine.j0 k (wrap64 ((Int.tmod a0 360) + 360))) else (mezzotintref01_Sine.j0 k (Int.tmod a0 360))) = some r := h
  clear h
  have HC2 := Aside0.mk H
  clear H
  go_enter Tryd.func77, Tryd.ntmps77
  go_upto_if 6 with (fail)
  go_cut [0] (fun v0 wc => ∃ (kq : Nat) (x0_1 : Int), v0 = .int .i64 x0_1 ∧ Aside0 (mezzotintref01_Sine.j0 kq x0_1 = some r) ∧ Aside0 (kq ≤ k) ∧ Drawn0 w wc)
  case first =>
    have H := HC2.out
    clear HC2
    by_cases c3 : (Int.tmod a0 360) < 0
    · rw [if_pos c3] at H
      have c3b0 : decide ((Int.tmod a0 360) < 0) = true := decide_eq_true c3
      clear c3
      (first | rw [c3b0] | (simp only [i64_w, i32_w]; rw [c3b0]) | skip)
      have H' := Aside0.mk H
      clear H
      go_wp2
      go_meet
      case rel => exact ⟨_, (wrap64 ((Int.tmod a0 360) + 360)), (by first | rfl | (simp; done) | (simp [*]; done)), H', ⟨by first | omega | exact Nat.le_refl _⟩, by repeat (first | exact Drawn0.refl _ | apply Drawn0.step)⟩
    · rw [if_neg c3] at H
      have c3b0 : decide ((Int.tmod a0 360) < 0) = false := decide_eq_false c3
      clear c3
      (first | rw [c3b0] | (simp only [i64_w, i32_w]; rw [c3b0]) | skip)
      have H' := Aside0.mk H
      clear H
      go_wp2
      go_meet
      case rel => exact ⟨_, (Int.tmod a0 360), (by first | rfl | (simp; done) | (simp [*]; done)), H', ⟨by first | omega | exact Nat.le_refl _⟩, by repeat (first | exact Drawn0.refl _ | apply Drawn0.step)⟩
  case rest =>
    clear HC2
    try clear p2
    try clear c3
    try clear c3b0
    obtain ⟨kq, x0_1, rfl, HA, HJ1, ⟨mc1, rfl⟩⟩ := hcut
    cases kq with
    | zero => exact absurd HA.out (by simp [mezzotintref01_Sine.j0])
    | succ kj1 =>
      have H := HA.out
      clear HA
      simp only [mezzotintref01_Sine.j0] at H
      by_cases c4 : x0_1 > 180
      · rw [if_pos c4] at H
        have c4b0 : decide (180 < x0_1) = true := decide_eq_true c4
        clear c4
        replace H := Option.bind_eq_some_iff.mp H
        obtain ⟨t363, A50, H⟩ := H
        replace H : (some (wrap64 (-t363))) = some r := H
        have A5 := Aside0.mk A50
        clear A50
        obtain rfl := Option.some.inj H
        go_wp2_with (first | ((with_reducible refine gate_callee (f := 77) rfl ?_); refine goesL_ (some 13) rfl rfl Tryd.func77 (by kernel_rfl) rfl #[.int .i64 (wrap64 (x0_1 - 180))] rfl (by (try simp only [List.map_toArray, List.map_cons, List.map_nil]); first | done | rfl | (simp only [List.length_drop, List.length_take]; rfl)) ?_; (with_reducible refine (ih kj1 (by have := HJ1.out; omega) (wrap64 (x0_1 - 180)) t363 _ A5.out).mono ?_); rintro e w' ⟨rfl, ⟨nd, rfl⟩⟩; refine ⟨_, rfl, ?_⟩))
        go_ret
        exact ⟨by first | rfl | (simp; done) | (simp [*]; done), by repeat (first | exact Drawn0.refl _ | apply Drawn0.step)⟩
      · rw [if_neg c4] at H
        have c4b0 : decide (180 < x0_1) = false := decide_eq_false c4
        clear c4
        by_cases c6 : x0_1 > 90
        · rw [if_pos c6] at H
          have c6b0 : decide (90 < x0_1) = true := decide_eq_true c6
          clear c6
          replace H := Option.bind_eq_some_iff.mp H
          obtain ⟨t364, A70, H⟩ := H
          replace H : (some t364) = some r := H
          have A7 := Aside0.mk A70
          clear A70
          obtain rfl := Option.some.inj H
          go_wp2_with (first | ((with_reducible refine gate_callee (f := 86) rfl ?_); refine goesL_ (some 19) rfl rfl Tryd.func86 (by kernel_rfl) rfl #[.int .i64 (wrap64 (180 - x0_1))] rfl (by (try simp only [List.map_toArray, List.map_cons, List.map_nil]); first | done | rfl | (simp only [List.length_drop, List.length_take]; rfl)) ?_; (with_reducible refine (mezzotintref01_sine.calls kj1 (wrap64 (180 - x0_1)) t364 _ A7.out).mono ?_); rintro e w' ⟨rfl, ⟨nd, rfl⟩⟩; refine ⟨_, rfl, ?_⟩))
          go_ret
          exact ⟨by first | rfl | (simp; done) | (simp [*]; done), by repeat (first | exact Drawn0.refl _ | apply Drawn0.step)⟩
        · rw [if_neg c6] at H
          have c6b0 : decide (90 < x0_1) = false := decide_eq_false c6
          clear c6
          replace H := Option.bind_eq_some_iff.mp H
          obtain ⟨t365, A80, H⟩ := H
          replace H : (some t365) = some r := H
          have A8 := Aside0.mk A80
          clear A80
          obtain rfl := Option.some.inj H
          go_wp2_with (first | ((with_reducible refine gate_callee (f := 86) rfl ?_); refine goesL_ (some 21) rfl rfl Tryd.func86 (by kernel_rfl) rfl #[.int .i64 x0_1] rfl (by (try simp only [List.map_toArray, List.map_cons, List.map_nil]); first | done | rfl | (simp only [List.length_drop, List.length_take]; rfl)) ?_; (with_reducible refine (mezzotintref01_sine.calls kj1 x0_1 t365 _ A8.out).mono ?_); rintro e w' ⟨rfl, ⟨nd, rfl⟩⟩; refine ⟨_, rfl, ?_⟩))
          go_ret
          exact ⟨by first | rfl | (simp; done) | (simp [*]; done), by repeat (first | exact Drawn0.refl _ | apply Drawn0.step)⟩
def mezzotintref01_Ceiling.f (a0 : Int) : Option (Int × Int) := (mezzotintref01_Fits.f a0).bind fun t366 => (if t366 = true then ((mezzotintref01_below.f a0).bind fun t367 => (if t367 = a0 then (some (a0, 0)) else ((mezzotintref01_below.f a0).bind fun t368 => ((mezzotintref01_keep.f (wrap64 (t368 + 65536))).bind fun bt369 => (some (bt369.1, bt369.2)))))) else (some (0, 11)))
set_option maxHeartbeats 8000000 in
set_option maxRecDepth 100000 in
theorem mezzotintref01_Ceiling.calls (a0 : Int) (r1 : Int) (r2 : Int) (w : World) (h : mezzotintref01_Ceiling.f a0 = some (r1, r2)) :
    Calls Tryd.prog 53 #[.int .i64 a0] w fun e w' => e = .returned (.tuple #[.int .i64 r1, .int .i64 r2]) ∧ Drawn0 w w' := by
  have H : ((mezzotintref01_Fits.f a0).bind fun t366 => (if t366 = true then ((mezzotintref01_below.f a0).bind fun t367 => (if t367 = a0 then (some (a0, 0)) else ((mezzotintref01_below.f a0).bind fun t368 => ((mezzotintref01_keep.f (wrap64 (t368 + 65536))).bind fun bt369 => (some (bt369.1, bt369.2)))))) else (some (0, 11)))) = some (r1, r2) := h
  clear h
  replace H := Option.bind_eq_some_iff.mp H
  obtain ⟨t366, A20, H⟩ := H
  replace H : (if t366 = true then ((mezzotintref01_below.f a0).bind fun t367 => (if t367 = a0 then (some (a0, 0)) else ((mezzotintref01_below.f a0).bind fun t368 => ((mezzotintref01_keep.f (wrap64 (t368 + 65536))).bind fun bt369 => (some (bt369.1, bt369.2)))))) else (some (0, 11))) = some (r1, r2) := H
  have A2 := Aside0.mk A20
  clear A20
  by_cases c3 : t366 = true
  · subst c3
    have H1 : ((mezzotintref01_below.f a0).bind fun t367 => (if t367 = a0 then (some (a0, 0)) else ((mezzotintref01_below.f a0).bind fun t368 => ((mezzotintref01_keep.f (wrap64 (t368 + 65536))).bind fun bt369 => (some (bt369.1, bt369.2)))))) = some (r1, r2) := by rw [if_pos rfl] at H; exact H
    clear H
    have H := H1
    clear H1
    replace H := Option.bind_eq_some_iff.mp H
    obtain ⟨t367, A40, H⟩ := H
    replace H : (if t367 = a0 then (some (a0, 0)) else ((mezzotintref01_below.f a0).bind fun t368 => ((mezzotintref01_keep.f (wrap64 (t368 + 65536))).bind fun bt369 => (some (bt369.1, bt369.2))))) = some (r1, r2) := H
    have A4 := Aside0.mk A40
    clear A40
    by_cases c5 : t367 = a0
    · rw [if_pos c5] at H
      have c5b0 : (t367 == a0) = true := beq_iff_eq.mpr c5
      have c5b1 : (t367 != a0) = false := bne_eq_false_iff_eq.mpr c5
      clear c5
      simp only [Option.some.injEq, Prod.mk.injEq] at H
      obtain ⟨rfl, rfl⟩ := H
      go_enter Tryd.func53, Tryd.ntmps53
      go_wp2_with (first | ((with_reducible refine gate_callee (f := 37) rfl ?_); refine goesL_ (some 5) rfl rfl Tryd.func37 (by kernel_rfl) rfl #[.int .i64 a0] rfl (by (try simp only [List.map_toArray, List.map_cons, List.map_nil]); first | done | rfl | (simp only [List.length_drop, List.length_take]; rfl)) ?_; (with_reducible refine (mezzotintref01_Fits.calls a0 true _ A2.out).mono ?_); rintro e w' ⟨rfl, ⟨nd, rfl⟩⟩; refine ⟨_, rfl, ?_⟩) | ((with_reducible refine gate_callee (f := 76) rfl ?_); refine goesL_ (some 8) rfl rfl Tryd.func76 (by kernel_rfl) rfl #[.int .i64 a0] rfl (by (try simp only [List.map_toArray, List.map_cons, List.map_nil]); first | done | rfl | (simp only [List.length_drop, List.length_take]; rfl)) ?_; (with_reducible refine (mezzotintref01_below.calls a0 t367 _ A4.out).mono ?_); rintro e w' ⟨rfl, ⟨nd, rfl⟩⟩; refine ⟨_, rfl, ?_⟩))
      go_ret2
      exact ⟨by first | rfl | (simp; done) | (simp [*]; done), by repeat (first | exact Drawn0.refl _ | apply Drawn0.step)⟩
    · rw [if_neg c5] at H
      have c5b0 : (t367 == a0) = false := beq_eq_false_iff_ne.mpr c5
      have c5b1 : (t367 != a0) = true := bne_iff_ne.mpr c5
      replace H := Option.bind_eq_some_iff.mp H
      obtain ⟨t368, A60, H⟩ := H
      replace H : ((mezzotintref01_keep.f (wrap64 (t368 + 65536))).bind fun bt369 => (some (bt369.1, bt369.2))) = some (r1, r2) := H
      have A6 := Aside0.mk A60
      clear A60
      replace H := Option.bind_eq_some_iff.mp H
      obtain ⟨⟨t369, t370⟩, A70, H⟩ := H
      replace H : (some (t369, t370)) = some (r1, r2) := H
      have A7 := Aside0.mk A70
      clear A70
      simp only [Option.some.injEq, Prod.mk.injEq] at H
      obtain ⟨rfl, rfl⟩ := H
      go_enter Tryd.func53, Tryd.ntmps53
      go_wp2_with (first | ((with_reducible refine gate_callee (f := 37) rfl ?_); refine goesL_ (some 5) rfl rfl Tryd.func37 (by kernel_rfl) rfl #[.int .i64 a0] rfl (by (try simp only [List.map_toArray, List.map_cons, List.map_nil]); first | done | rfl | (simp only [List.length_drop, List.length_take]; rfl)) ?_; (with_reducible refine (mezzotintref01_Fits.calls a0 true _ A2.out).mono ?_); rintro e w' ⟨rfl, ⟨nd, rfl⟩⟩; refine ⟨_, rfl, ?_⟩) | ((with_reducible refine gate_callee (f := 76) rfl ?_); refine goesL_ (some 8) rfl rfl Tryd.func76 (by kernel_rfl) rfl #[.int .i64 a0] rfl (by (try simp only [List.map_toArray, List.map_cons, List.map_nil]); first | done | rfl | (simp only [List.length_drop, List.length_take]; rfl)) ?_; (with_reducible refine (mezzotintref01_below.calls a0 t367 _ A4.out).mono ?_); rintro e w' ⟨rfl, ⟨nd, rfl⟩⟩; refine ⟨_, rfl, ?_⟩) | ((with_reducible refine gate_callee (f := 76) rfl ?_); refine goesL_ (some 13) rfl rfl Tryd.func76 (by kernel_rfl) rfl #[.int .i64 a0] rfl (by (try simp only [List.map_toArray, List.map_cons, List.map_nil]); first | done | rfl | (simp only [List.length_drop, List.length_take]; rfl)) ?_; (with_reducible refine (mezzotintref01_below.calls a0 t368 _ A6.out).mono ?_); rintro e w' ⟨rfl, ⟨nd, rfl⟩⟩; refine ⟨_, rfl, ?_⟩) | ((with_reducible refine gate_callee (f := 59) rfl ?_); refine goesL_ (some 15) rfl rfl Tryd.func59 (by kernel_rfl) rfl #[.int .i64 (wrap64 (t368 + 65536))] rfl (by (try simp only [List.map_toArray, List.map_cons, List.map_nil]); first | done | rfl | (simp only [List.length_drop, List.length_take]; rfl)) ?_; (with_reducible refine (mezzotintref01_keep.calls (wrap64 (t368 + 65536)) t369 t370 _ A7.out).mono ?_); rintro e w' ⟨rfl, ⟨nd, rfl⟩⟩; refine ⟨_, rfl, ?_⟩))
      go_ret2
      exact ⟨by first | rfl | (simp; done) | (simp [*]; done), by repeat (first | exact Drawn0.refl _ | apply Drawn0.step)⟩
  · replace c3 := Bool.eq_false_iff.mpr c3
    subst c3
    have H1 : (some (0, 11)) = some (r1, r2) := by rw [if_neg (show ¬ (false = true) by decide)] at H; exact H
    clear H
    have H := H1
    clear H1
    simp only [Option.some.injEq, Prod.mk.injEq] at H
    obtain ⟨rfl, rfl⟩ := H
    go_enter Tryd.func53, Tryd.ntmps53
    go_wp2_with (first | ((with_reducible refine gate_callee (f := 37) rfl ?_); refine goesL_ (some 5) rfl rfl Tryd.func37 (by kernel_rfl) rfl #[.int .i64 a0] rfl (by (try simp only [List.map_toArray, List.map_cons, List.map_nil]); first | done | rfl | (simp only [List.length_drop, List.length_take]; rfl)) ?_; (with_reducible refine (mezzotintref01_Fits.calls a0 false _ A2.out).mono ?_); rintro e w' ⟨rfl, ⟨nd, rfl⟩⟩; refine ⟨_, rfl, ?_⟩))
    go_ret2
    exact ⟨by first | rfl | (simp; done) | (simp [*]; done), by repeat (first | exact Drawn0.refl _ | apply Drawn0.step)⟩
def mezzotintref01_Round.f (a0 : Int) : Option (Int × Int) := (mezzotintref01_Fits.f a0).bind fun t371 => (if t371 = true then ((mezzotintref01_below.f a0).bind fun t372 => (if (wrap64 (a0 - t372)) ≥ 32768 then ((mezzotintref01_below.f a0).bind fun t373 => ((mezzotintref01_keep.f (wrap64 (t373 + 65536))).bind fun bt374 => (some (bt374.1, bt374.2)))) else ((mezzotintref01_below.f a0).bind fun t376 => (some (t376, 0))))) else (some (0, 11)))
set_option maxHeartbeats 8000000 in
set_option maxRecDepth 100000 in
theorem mezzotintref01_Round.calls (a0 : Int) (r1 : Int) (r2 : Int) (w : World) (h : mezzotintref01_Round.f a0 = some (r1, r2)) :
    Calls Tryd.prog 54 #[.int .i64 a0] w fun e w' => e = .returned (.tuple #[.int .i64 r1, .int .i64 r2]) ∧ Drawn0 w w' := by
  have H : ((mezzotintref01_Fits.f a0).bind fun t371 => (if t371 = true then ((mezzotintref01_below.f a0).bind fun t372 => (if (wrap64 (a0 - t372)) ≥ 32768 then ((mezzotintref01_below.f a0).bind fun t373 => ((mezzotintref01_keep.f (wrap64 (t373 + 65536))).bind fun bt374 => (some (bt374.1, bt374.2)))) else ((mezzotintref01_below.f a0).bind fun t376 => (some (t376, 0))))) else (some (0, 11)))) = some (r1, r2) := h
  clear h
  replace H := Option.bind_eq_some_iff.mp H
  obtain ⟨t371, A20, H⟩ := H
  replace H : (if t371 = true then ((mezzotintref01_below.f a0).bind fun t372 => (if (wrap64 (a0 - t372)) ≥ 32768 then ((mezzotintref01_below.f a0).bind fun t373 => ((mezzotintref01_keep.f (wrap64 (t373 + 65536))).bind fun bt374 => (some (bt374.1, bt374.2)))) else ((mezzotintref01_below.f a0).bind fun t376 => (some (t376, 0))))) else (some (0, 11))) = some (r1, r2) := H
  have A2 := Aside0.mk A20
  clear A20
  by_cases c3 : t371 = true
  · subst c3
    have H1 : ((mezzotintref01_below.f a0).bind fun t372 => (if (wrap64 (a0 - t372)) ≥ 32768 then ((mezzotintref01_below.f a0).bind fun t373 => ((mezzotintref01_keep.f (wrap64 (t373 + 65536))).bind fun bt374 => (some (bt374.1, bt374.2)))) else ((mezzotintref01_below.f a0).bind fun t376 => (some (t376, 0))))) = some (r1, r2) := by rw [if_pos rfl] at H; exact H
    clear H
    have H := H1
    clear H1
    replace H := Option.bind_eq_some_iff.mp H
    obtain ⟨t372, A40, H⟩ := H
    replace H : (if (wrap64 (a0 - t372)) ≥ 32768 then ((mezzotintref01_below.f a0).bind fun t373 => ((mezzotintref01_keep.f (wrap64 (t373 + 65536))).bind fun bt374 => (some (bt374.1, bt374.2)))) else ((mezzotintref01_below.f a0).bind fun t376 => (some (t376, 0)))) = some (r1, r2) := H
    have A4 := Aside0.mk A40
    clear A40
    by_cases c5 : (wrap64 (a0 - t372)) ≥ 32768
    · rw [if_pos c5] at H
      have c5b0 : decide (32768 ≤ (wrap64 (a0 - t372))) = true := decide_eq_true c5
      clear c5
      replace H := Option.bind_eq_some_iff.mp H
      obtain ⟨t373, A60, H⟩ := H
      replace H : ((mezzotintref01_keep.f (wrap64 (t373 + 65536))).bind fun bt374 => (some (bt374.1, bt374.2))) = some (r1, r2) := H
      have A6 := Aside0.mk A60
      clear A60
      replace H := Option.bind_eq_some_iff.mp H
      obtain ⟨⟨t374, t375⟩, A70, H⟩ := H
      replace H : (some (t374, t375)) = some (r1, r2) := H
      have A7 := Aside0.mk A70
      clear A70
      simp only [Option.some.injEq, Prod.mk.injEq] at H
      obtain ⟨rfl, rfl⟩ := H
      go_enter Tryd.func54, Tryd.ntmps54
      go_wp2_with (first | ((with_reducible refine gate_callee (f := 37) rfl ?_); refine goesL_ (some 5) rfl rfl Tryd.func37 (by kernel_rfl) rfl #[.int .i64 a0] rfl (by (try simp only [List.map_toArray, List.map_cons, List.map_nil]); first | done | rfl | (simp only [List.length_drop, List.length_take]; rfl)) ?_; (with_reducible refine (mezzotintref01_Fits.calls a0 true _ A2.out).mono ?_); rintro e w' ⟨rfl, ⟨nd, rfl⟩⟩; refine ⟨_, rfl, ?_⟩) | ((with_reducible refine gate_callee (f := 76) rfl ?_); refine goesL_ (some 9) rfl rfl Tryd.func76 (by kernel_rfl) rfl #[.int .i64 a0] rfl (by (try simp only [List.map_toArray, List.map_cons, List.map_nil]); first | done | rfl | (simp only [List.length_drop, List.length_take]; rfl)) ?_; (with_reducible refine (mezzotintref01_below.calls a0 t372 _ A4.out).mono ?_); rintro e w' ⟨rfl, ⟨nd, rfl⟩⟩; refine ⟨_, rfl, ?_⟩) | ((with_reducible refine gate_callee (f := 76) rfl ?_); refine goesL_ (some 13) rfl rfl Tryd.func76 (by kernel_rfl) rfl #[.int .i64 a0] rfl (by (try simp only [List.map_toArray, List.map_cons, List.map_nil]); first | done | rfl | (simp only [List.length_drop, List.length_take]; rfl)) ?_; (with_reducible refine (mezzotintref01_below.calls a0 t373 _ A6.out).mono ?_); rintro e w' ⟨rfl, ⟨nd, rfl⟩⟩; refine ⟨_, rfl, ?_⟩) | ((with_reducible refine gate_callee (f := 59) rfl ?_); refine goesL_ (some 15) rfl rfl Tryd.func59 (by kernel_rfl) rfl #[.int .i64 (wrap64 (t373 + 65536))] rfl (by (try simp only [List.map_toArray, List.map_cons, List.map_nil]); first | done | rfl | (simp only [List.length_drop, List.length_take]; rfl)) ?_; (with_reducible refine (mezzotintref01_keep.calls (wrap64 (t373 + 65536)) t374 t375 _ A7.out).mono ?_); rintro e w' ⟨rfl, ⟨nd, rfl⟩⟩; refine ⟨_, rfl, ?_⟩))
      go_ret2
      exact ⟨by first | rfl | (simp; done) | (simp [*]; done), by repeat (first | exact Drawn0.refl _ | apply Drawn0.step)⟩
    · rw [if_neg c5] at H
      have c5b0 : decide (32768 ≤ (wrap64 (a0 - t372))) = false := decide_eq_false c5
      clear c5
      replace H := Option.bind_eq_some_iff.mp H
      obtain ⟨t376, A80, H⟩ := H
      replace H : (some (t376, 0)) = some (r1, r2) := H
      have A8 := Aside0.mk A80
      clear A80
      simp only [Option.some.injEq, Prod.mk.injEq] at H
      obtain ⟨rfl, rfl⟩ := H
      go_enter Tryd.func54, Tryd.ntmps54
      go_wp2_with (first | ((with_reducible refine gate_callee (f := 37) rfl ?_); refine goesL_ (some 5) rfl rfl Tryd.func37 (by kernel_rfl) rfl #[.int .i64 a0] rfl (by (try simp only [List.map_toArray, List.map_cons, List.map_nil]); first | done | rfl | (simp only [List.length_drop, List.length_take]; rfl)) ?_; (with_reducible refine (mezzotintref01_Fits.calls a0 true _ A2.out).mono ?_); rintro e w' ⟨rfl, ⟨nd, rfl⟩⟩; refine ⟨_, rfl, ?_⟩) | ((with_reducible refine gate_callee (f := 76) rfl ?_); refine goesL_ (some 9) rfl rfl Tryd.func76 (by kernel_rfl) rfl #[.int .i64 a0] rfl (by (try simp only [List.map_toArray, List.map_cons, List.map_nil]); first | done | rfl | (simp only [List.length_drop, List.length_take]; rfl)) ?_; (with_reducible refine (mezzotintref01_below.calls a0 t372 _ A4.out).mono ?_); rintro e w' ⟨rfl, ⟨nd, rfl⟩⟩; refine ⟨_, rfl, ?_⟩) | ((with_reducible refine gate_callee (f := 76) rfl ?_); refine goesL_ (some 19) rfl rfl Tryd.func76 (by kernel_rfl) rfl #[.int .i64 a0] rfl (by (try simp only [List.map_toArray, List.map_cons, List.map_nil]); first | done | rfl | (simp only [List.length_drop, List.length_take]; rfl)) ?_; (with_reducible refine (mezzotintref01_below.calls a0 t376 _ A8.out).mono ?_); rintro e w' ⟨rfl, ⟨nd, rfl⟩⟩; refine ⟨_, rfl, ?_⟩))
      go_ret2
      exact ⟨by first | rfl | (simp; done) | (simp [*]; done), by repeat (first | exact Drawn0.refl _ | apply Drawn0.step)⟩
  · replace c3 := Bool.eq_false_iff.mpr c3
    subst c3
    have H1 : (some (0, 11)) = some (r1, r2) := by rw [if_neg (show ¬ (false = true) by decide)] at H; exact H
    clear H
    have H := H1
    clear H1
    simp only [Option.some.injEq, Prod.mk.injEq] at H
    obtain ⟨rfl, rfl⟩ := H
    go_enter Tryd.func54, Tryd.ntmps54
    go_wp2_with (first | ((with_reducible refine gate_callee (f := 37) rfl ?_); refine goesL_ (some 5) rfl rfl Tryd.func37 (by kernel_rfl) rfl #[.int .i64 a0] rfl (by (try simp only [List.map_toArray, List.map_cons, List.map_nil]); first | done | rfl | (simp only [List.length_drop, List.length_take]; rfl)) ?_; (with_reducible refine (mezzotintref01_Fits.calls a0 false _ A2.out).mono ?_); rintro e w' ⟨rfl, ⟨nd, rfl⟩⟩; refine ⟨_, rfl, ?_⟩))
    go_ret2
    exact ⟨by first | rfl | (simp; done) | (simp [*]; done), by repeat (first | exact Drawn0.refl _ | apply Drawn0.step)⟩
def mezzotintref01_Floor.f (a0 : Int) : Option (Int) := (mezzotintref01_Fits.f a0).bind fun t377 => (if t377 = true then ((mezzotintref01_below.f a0).bind fun t378 => (some t378)) else (some 0))
set_option maxHeartbeats 8000000 in
set_option maxRecDepth 100000 in
theorem mezzotintref01_Floor.calls (a0 : Int) (r : Int) (w : World) (h : mezzotintref01_Floor.f a0 = some r) :
    Calls Tryd.prog 56 #[.int .i64 a0] w fun e w' => e = .returned (.int .i64 r) ∧ Drawn0 w w' := by
  have H : ((mezzotintref01_Fits.f a0).bind fun t377 => (if t377 = true then ((mezzotintref01_below.f a0).bind fun t378 => (some t378)) else (some 0))) = some r := h
  clear h
  replace H := Option.bind_eq_some_iff.mp H
  obtain ⟨t377, A20, H⟩ := H
  replace H : (if t377 = true then ((mezzotintref01_below.f a0).bind fun t378 => (some t378)) else (some 0)) = some r := H
  have A2 := Aside0.mk A20
  clear A20
  by_cases c3 : t377 = true
  · subst c3
    have H1 : ((mezzotintref01_below.f a0).bind fun t378 => (some t378)) = some r := by rw [if_pos rfl] at H; exact H
    clear H
    have H := H1
    clear H1
    replace H := Option.bind_eq_some_iff.mp H
    obtain ⟨t378, A40, H⟩ := H
    replace H : (some t378) = some r := H
    have A4 := Aside0.mk A40
    clear A40
    obtain rfl := Option.some.inj H
    go_enter Tryd.func56, Tryd.ntmps56
    go_wp2_with (first | ((with_reducible refine gate_callee (f := 37) rfl ?_); refine goesL_ (some 4) rfl rfl Tryd.func37 (by kernel_rfl) rfl #[.int .i64 a0] rfl (by (try simp only [List.map_toArray, List.map_cons, List.map_nil]); first | done | rfl | (simp only [List.length_drop, List.length_take]; rfl)) ?_; (with_reducible refine (mezzotintref01_Fits.calls a0 true _ A2.out).mono ?_); rintro e w' ⟨rfl, ⟨nd, rfl⟩⟩; refine ⟨_, rfl, ?_⟩) | ((with_reducible refine gate_callee (f := 76) rfl ?_); refine goesL_ (some 7) rfl rfl Tryd.func76 (by kernel_rfl) rfl #[.int .i64 a0] rfl (by (try simp only [List.map_toArray, List.map_cons, List.map_nil]); first | done | rfl | (simp only [List.length_drop, List.length_take]; rfl)) ?_; (with_reducible refine (mezzotintref01_below.calls a0 t378 _ A4.out).mono ?_); rintro e w' ⟨rfl, ⟨nd, rfl⟩⟩; refine ⟨_, rfl, ?_⟩))
    go_ret
    exact ⟨by first | rfl | (simp; done) | (simp [*]; done), by repeat (first | exact Drawn0.refl _ | apply Drawn0.step)⟩
  · replace c3 := Bool.eq_false_iff.mpr c3
    subst c3
    have H1 : (some 0) = some r := by rw [if_neg (show ¬ (false = true) by decide)] at H; exact H
    clear H
    have H := H1
    clear H1
    obtain rfl := Option.some.inj H
    go_enter Tryd.func56, Tryd.ntmps56
    go_wp2_with (first | ((with_reducible refine gate_callee (f := 37) rfl ?_); refine goesL_ (some 4) rfl rfl Tryd.func37 (by kernel_rfl) rfl #[.int .i64 a0] rfl (by (try simp only [List.map_toArray, List.map_cons, List.map_nil]); first | done | rfl | (simp only [List.length_drop, List.length_take]; rfl)) ?_; (with_reducible refine (mezzotintref01_Fits.calls a0 false _ A2.out).mono ?_); rintro e w' ⟨rfl, ⟨nd, rfl⟩⟩; refine ⟨_, rfl, ?_⟩))
    go_ret
    exact ⟨by first | rfl | (simp; done) | (simp [*]; done), by repeat (first | exact Drawn0.refl _ | apply Drawn0.step)⟩
def mezzotintref01_Truncate.f (a0 : Int) : Option (Int) := (mezzotintref01_Fits.f a0).bind fun t379 => (if t379 = true then (some (wrap64 ((wrap64 (Int.tdiv a0 65536)) * 65536))) else (some 0))
set_option maxHeartbeats 8000000 in
set_option maxRecDepth 100000 in
theorem mezzotintref01_Truncate.calls (a0 : Int) (r : Int) (w : World) (h : mezzotintref01_Truncate.f a0 = some r) :
    Calls Tryd.prog 57 #[.int .i64 a0] w fun e w' => e = .returned (.int .i64 r) ∧ Drawn0 w w' := by
  have H : ((mezzotintref01_Fits.f a0).bind fun t379 => (if t379 = true then (some (wrap64 ((wrap64 (Int.tdiv a0 65536)) * 65536))) else (some 0))) = some r := h
  clear h
  replace H := Option.bind_eq_some_iff.mp H
  obtain ⟨t379, A20, H⟩ := H
  replace H : (if t379 = true then (some (wrap64 ((wrap64 (Int.tdiv a0 65536)) * 65536))) else (some 0)) = some r := H
  have A2 := Aside0.mk A20
  clear A20
  by_cases c3 : t379 = true
  · subst c3
    have H1 : (some (wrap64 ((wrap64 (Int.tdiv a0 65536)) * 65536))) = some r := by rw [if_pos rfl] at H; exact H
    clear H
    have H := H1
    clear H1
    obtain rfl := Option.some.inj H
    go_enter Tryd.func57, Tryd.ntmps57
    go_wp2_with (first | ((with_reducible refine gate_callee (f := 37) rfl ?_); refine goesL_ (some 4) rfl rfl Tryd.func37 (by kernel_rfl) rfl #[.int .i64 a0] rfl (by (try simp only [List.map_toArray, List.map_cons, List.map_nil]); first | done | rfl | (simp only [List.length_drop, List.length_take]; rfl)) ?_; (with_reducible refine (mezzotintref01_Fits.calls a0 true _ A2.out).mono ?_); rintro e w' ⟨rfl, ⟨nd, rfl⟩⟩; refine ⟨_, rfl, ?_⟩))
    go_ret
    exact ⟨by first | rfl | (simp; done) | (simp [*]; done), by repeat (first | exact Drawn0.refl _ | apply Drawn0.step)⟩
  · replace c3 := Bool.eq_false_iff.mpr c3
    subst c3
    have H1 : (some 0) = some r := by rw [if_neg (show ¬ (false = true) by decide)] at H; exact H
    clear H
    have H := H1
    clear H1
    obtain rfl := Option.some.inj H
    go_enter Tryd.func57, Tryd.ntmps57
    go_wp2_with (first | ((with_reducible refine gate_callee (f := 37) rfl ?_); refine goesL_ (some 4) rfl rfl Tryd.func37 (by kernel_rfl) rfl #[.int .i64 a0] rfl (by (try simp only [List.map_toArray, List.map_cons, List.map_nil]); first | done | rfl | (simp only [List.length_drop, List.length_take]; rfl)) ?_; (with_reducible refine (mezzotintref01_Fits.calls a0 false _ A2.out).mono ?_); rintro e w' ⟨rfl, ⟨nd, rfl⟩⟩; refine ⟨_, rfl, ?_⟩))
    go_ret
    exact ⟨by first | rfl | (simp; done) | (simp [*]; done), by repeat (first | exact Drawn0.refl _ | apply Drawn0.step)⟩
def mezzotintref05_logic.f (a0 : ByteArray) (a1 : Bool) (a2 : Bool) : Option (Bool) := if a0.toList = ([97, 110, 100] : List UInt8) then (if a1 = true then (some a2) else (some false)) else (if a0.toList = ([111, 114] : List UInt8) then (if a1 = true then (some true) else (some a2)) else (some (a1 != a2)))
set_option maxHeartbeats 8000000 in
set_option maxRecDepth 100000 in
theorem mezzotintref05_logic.calls (a0 : ByteArray) (a1 : Bool) (a2 : Bool) (r : Bool) (w : World) (h : mezzotintref05_logic.f a0 a1 a2 = some r) :
    Calls Tryd.prog 24 #[.string a0, .bool a1, .bool a2] w fun e w' => e = .returned (.bool r) ∧ Drawn0 w w' := by
  have H : (if a0.toList = ([97, 110, 100] : List UInt8) then (if a1 = true then (some a2) else (some false)) else (if a0.toList = ([111, 114] : List UInt8) then (if a1 = true then (some true) else (some a2)) else (some (a1 != a2)))) = some r := h
  clear h
  by_cases c4 : a0.toList = ([97, 110, 100] : List UInt8)
  · rw [if_pos c4] at H
    have c4b0 : (a0.toList == ([97, 110, 100] : List UInt8)) = true := beq_iff_eq.mpr c4
    have c4b1 : (a0.toList != ([97, 110, 100] : List UInt8)) = false := bne_eq_false_iff_eq.mpr c4
    clear c4
    by_cases c5 : a1 = true
    · subst c5
      have H1 : (some a2) = some r := by rw [if_pos rfl] at H; exact H
      clear H
      have H := H1
      clear H1
      obtain rfl := Option.some.inj H
      go_enter Tryd.func24, Tryd.ntmps24
      go_wp2
      go_ret
      exact ⟨by first | rfl | (simp; done) | (simp [*]; done), by repeat (first | exact Drawn0.refl _ | apply Drawn0.step)⟩
    · replace c5 := Bool.eq_false_iff.mpr c5
      subst c5
      have H1 : (some false) = some r := by rw [if_neg (show ¬ (false = true) by decide)] at H; exact H
      clear H
      have H := H1
      clear H1
      obtain rfl := Option.some.inj H
      go_enter Tryd.func24, Tryd.ntmps24
      go_wp2
      go_ret
      exact ⟨by first | rfl | (simp; done) | (simp [*]; done), by repeat (first | exact Drawn0.refl _ | apply Drawn0.step)⟩
  · rw [if_neg c4] at H
    have c4b0 : (a0.toList == ([97, 110, 100] : List UInt8)) = false := beq_eq_false_iff_ne.mpr c4
    have c4b1 : (a0.toList != ([97, 110, 100] : List UInt8)) = true := bne_iff_ne.mpr c4
    by_cases c6 : a0.toList = ([111, 114] : List UInt8)
    · rw [if_pos c6] at H
      have c6b0 : (a0.toList == ([111, 114] : List UInt8)) = true := beq_iff_eq.mpr c6
      have c6b1 : (a0.toList != ([111, 114] : List UInt8)) = false := bne_eq_false_iff_eq.mpr c6
      clear c6
      by_cases c7 : a1 = true
      · subst c7
        have H1 : (some true) = some r := by rw [if_pos rfl] at H; exact H
        clear H
        have H := H1
        clear H1
        obtain rfl := Option.some.inj H
        go_enter Tryd.func24, Tryd.ntmps24
        go_wp2
        go_ret
        exact ⟨by first | rfl | (simp; done) | (simp [*]; done), by repeat (first | exact Drawn0.refl _ | apply Drawn0.step)⟩
      · replace c7 := Bool.eq_false_iff.mpr c7
        subst c7
        have H1 : (some a2) = some r := by rw [if_neg (show ¬ (false = true) by decide)] at H; exact H
        clear H
        have H := H1
        clear H1
        obtain rfl := Option.some.inj H
        go_enter Tryd.func24, Tryd.ntmps24
        go_wp2
        go_ret
        exact ⟨by first | rfl | (simp; done) | (simp [*]; done), by repeat (first | exact Drawn0.refl _ | apply Drawn0.step)⟩
    · rw [if_neg c6] at H
      have c6b0 : (a0.toList == ([111, 114] : List UInt8)) = false := beq_eq_false_iff_ne.mpr c6
      have c6b1 : (a0.toList != ([111, 114] : List UInt8)) = true := bne_iff_ne.mpr c6
      obtain rfl := Option.some.inj H
      go_enter Tryd.func24, Tryd.ntmps24
      go_wp2
      go_ret
      exact ⟨by first | rfl | (simp; done) | (simp [*]; done), by repeat (first | exact Drawn0.refl _ | apply Drawn0.step)⟩
def mezzotintref05_bitwise.l0 : Nat → ByteArray → Int → Int → Int → Int → Option (Int)
  | 0, _, _, _, _, _ => none
  | k + 1, x0, x1, x2, x7, x8 => if x8 < 32 then (if 0 ≤ (IntKind.u64.wrap (x8)) then ((mezzotintref05_logic.f x0 ((Int.tmod (shr .i64 x1 (IntKind.u64.wrap (x8))) 2) != 0) ((Int.tmod (shr .i64 x2 (IntKind.u64.wrap (x8))) 2) != 0)).bind fun t380 => (if t380 = true then (mezzotintref05_bitwise.l0 k x0 x1 x2 (wrap64 (x7 + (shl .i64 1 (IntKind.u64.wrap (x8))))) (wrap64 (x8 + 1))) else (mezzotintref05_bitwise.l0 k x0 x1 x2 x7 (wrap64 (x8 + 1))))) else (none)) else (if x7 ≥ 2147483648 then (some (wrap64 (x7 - 4294967296))) else (some x7))
def mezzotintref05_bitwise.f (k : Nat) (a0 : ByteArray) (a1 : Int) (a2 : Int) : Option (Int) := mezzotintref05_bitwise.l0 k a0 a1 a2 0 0
theorem mezzotintref05_bitwise.mono_l : ∀ k, (∀ y0 y1 y2 y3 y4, LeO (mezzotintref05_bitwise.l0 k y0 y1 y2 y3 y4) (mezzotintref05_bitwise.l0 (k + 1) y0 y1 y2 y3 y4))
  | 0 => fun _ _ _ _ _ r h => by simp [mezzotintref05_bitwise.l0] at h
  | k + 1 => by
    have ih0 := mezzotintref05_bitwise.mono_l k
    · intro y0 y1 y2 y3 y4
      unfold mezzotintref05_bitwise.l0
      repeat' first
      | (with_reducible exact ih0 _ _ _ _ _)
      | (with_reducible exact LeO.refl _)
      | (with_reducible exact LeO.none _)
      | (with_reducible refine LeO.ite ?_ ?_)
      | (with_reducible refine LeO.bind ?_ (fun _ => ?_))
      | exact ih0 _ _ _ _ _
      | exact LeO.none _
      | refine LeO.ite ?_ ?_
      | refine LeO.bind ?_ (fun _ => ?_)
theorem mezzotintref05_bitwise.mono : ∀ a0 a1 a2 k, LeO (mezzotintref05_bitwise.f k a0 a1 a2) (mezzotintref05_bitwise.f (k + 1) a0 a1 a2) := by
  intro a0 a1 a2 k
  have ih0 := mezzotintref05_bitwise.mono_l k
  unfold mezzotintref05_bitwise.f
  repeat' first
      | (with_reducible exact ih0 _ _ _ _ _)
      | (with_reducible exact LeO.refl _)
      | (with_reducible exact LeO.none _)
      | (with_reducible refine LeO.ite ?_ ?_)
      | (with_reducible refine LeO.bind ?_ (fun _ => ?_))
      | exact ih0 _ _ _ _ _
      | exact LeO.none _
      | refine LeO.ite ?_ ?_
      | refine LeO.bind ?_ (fun _ => ?_)
set_option maxHeartbeats 8000000 in
set_option maxRecDepth 100000 in
theorem mezzotintref05_bitwise.calls (k : Nat) (a0 : ByteArray) (a1 : Int) (a2 : Int) (r : Int) (w : World) (h : mezzotintref05_bitwise.f k a0 a1 a2 = some r) :
    Calls Tryd.prog 25 #[.string a0, .int .i64 a1, .int .i64 a2] w fun e w' => e = .returned (.int .i64 r) ∧ Drawn0 w w' := by
  have H : (mezzotintref05_bitwise.l0 k a0 a1 a2 0 0) = some r := h
  clear h
  have H' := Aside0.mk H
  clear H
  go_enter Tryd.func25, Tryd.ntmps25
  go_wp2
  go_loopg [7, 8] k (fun kq v7 v8 w' => ∃ (x7_1 : Int) (x8_1 : Int), v7 = .int .i64 x7_1 ∧ v8 = .int .i64 x8_1 ∧ Aside0 (mezzotintref05_bitwise.l0 kq a0 a1 a2 x7_1 x8_1 = some r) ∧ Aside0 (kq ≤ k) ∧ Drawn0 w w')
  case atStart => exact ⟨(0), (0), (by first | rfl | (simp; done) | (simp [*]; done)), (by first | rfl | (simp; done) | (simp [*]; done)), H', ⟨Nat.le_refl _⟩, by repeat (first | exact Drawn0.refl _ | apply Drawn0.step)⟩
  case round =>
    clear H'
    try clear c2
    try clear p2
    obtain ⟨x7_1, x8_1, rfl, rfl, HA, HK1, ⟨m1, rfl⟩⟩ := hrel
    cases gk with
    | zero => exact absurd HA.out (by simp [mezzotintref05_bitwise.l0])
    | succ k1 =>
      have H := HA.out
      clear HA
      simp only [mezzotintref05_bitwise.l0] at H
      by_cases c4 : x8_1 < 32
      · rw [if_pos c4] at H
        have c4b0 : decide (x8_1 < 32) = true := decide_eq_true c4
        clear c4
        obtain ⟨ji5, hji5⟩ : ∃ j_ : Int, (IntKind.u64.wrap (x8_1)) = j_ := ⟨_, rfl⟩
        replace H : (if 0 ≤ (ji5) then ((mezzotintref05_logic.f a0 ((Int.tmod (shr .i64 a1 (ji5)) 2) != 0) ((Int.tmod (shr .i64 a2 (ji5)) 2) != 0)).bind fun t380 => (if t380 = true then (mezzotintref05_bitwise.l0 k1 a0 a1 a2 (wrap64 (x7_1 + (shl .i64 1 (ji5)))) (wrap64 (x8_1 + 1))) else (mezzotintref05_bitwise.l0 k1 a0 a1 a2 x7_1 (wrap64 (x8_1 + 1))))) else (none)) = some r := by first | (rw [hji5] at H; exact H) | (simp only [hji5] at H ⊢; exact H)
        by_cases c6 : 0 ≤ (ji5)
        · rw [if_pos c6] at H
          have c6b0 := eq_true c6
          have c6b1 : decide (0 ≤ (ji5)) = true := decide_eq_true c6
          clear c6
          obtain ⟨ji7, hji7⟩ : ∃ j_ : Int, (shr .i64 a1 (ji5)) = j_ := ⟨_, rfl⟩
          replace H : ((mezzotintref05_logic.f a0 ((Int.tmod (ji7) 2) != 0) ((Int.tmod (shr .i64 a2 (ji5)) 2) != 0)).bind fun t380 => (if t380 = true then (mezzotintref05_bitwise.l0 k1 a0 a1 a2 (wrap64 (x7_1 + (shl .i64 1 (ji5)))) (wrap64 (x8_1 + 1))) else (mezzotintref05_bitwise.l0 k1 a0 a1 a2 x7_1 (wrap64 (x8_1 + 1))))) = some r := by first | (rw [hji7] at H; exact H) | (simp only [hji7] at H ⊢; exact H)
          have hji7_ : (a1 / 2 ^ min (ji5).toNat 64) = ji7 := hji7
          have hji7z : (ji5) ≤ 64 → (a1 / 2 ^ (ji5).toNat) = ji7 := shr_small hji7
          have c8b0 := eq_true (of_decide_eq_true (by first | (with_reducible assumption) | assumption) : 0 ≤ (ji5))
          obtain ⟨ji9, hji9⟩ : ∃ j_ : Int, (shr .i64 a2 (ji5)) = j_ := ⟨_, rfl⟩
          replace H : ((mezzotintref05_logic.f a0 ((Int.tmod (ji7) 2) != 0) ((Int.tmod (ji9) 2) != 0)).bind fun t380 => (if t380 = true then (mezzotintref05_bitwise.l0 k1 a0 a1 a2 (wrap64 (x7_1 + (shl .i64 1 (ji5)))) (wrap64 (x8_1 + 1))) else (mezzotintref05_bitwise.l0 k1 a0 a1 a2 x7_1 (wrap64 (x8_1 + 1))))) = some r := by first | (rw [hji9] at H; exact H) | (simp only [hji9] at H ⊢; exact H)
          have hji9_ : (a2 / 2 ^ min (ji5).toNat 64) = ji9 := hji9
          have hji9z : (ji5) ≤ 64 → (a2 / 2 ^ (ji5).toNat) = ji9 := shr_small hji9
          replace H := Option.bind_eq_some_iff.mp H
          obtain ⟨t380, A100, H⟩ := H
          replace H : (if t380 = true then (mezzotintref05_bitwise.l0 k1 a0 a1 a2 (wrap64 (x7_1 + (shl .i64 1 (ji5)))) (wrap64 (x8_1 + 1))) else (mezzotintref05_bitwise.l0 k1 a0 a1 a2 x7_1 (wrap64 (x8_1 + 1)))) = some r := H
          have A10 := Aside0.mk A100
          clear A100
          by_cases c11 : t380 = true
          · subst c11
            have H1 : (mezzotintref05_bitwise.l0 k1 a0 a1 a2 (wrap64 (x7_1 + (shl .i64 1 (ji5)))) (wrap64 (x8_1 + 1))) = some r := by rw [if_pos rfl] at H; exact H
            clear H
            have H := H1
            clear H1
            have c12b0 := eq_true (of_decide_eq_true (by first | (with_reducible assumption) | assumption) : 0 ≤ (ji5))
            obtain ⟨ji13, hji13⟩ : ∃ j_ : Int, (shl .i64 1 (ji5)) = j_ := ⟨_, rfl⟩
            replace H : (mezzotintref05_bitwise.l0 k1 a0 a1 a2 (wrap64 (x7_1 + (ji13))) (wrap64 (x8_1 + 1))) = some r := by first | (rw [hji13] at H; exact H) | (simp only [hji13] at H ⊢; exact H)
            (try rw [hji13] at A10)
            have hji13_ : (IntKind.i64.wrap (1 * 2 ^ min (ji5).toNat 64)) = ji13 := hji13
            have hji13z : (ji5) ≤ 64 → (IntKind.i64.wrap (1 * 2 ^ (ji5).toNat)) = ji13 := shl_small hji13
            have hji13u : (IntKind.i64.wrap (2 ^ min (ji5).toNat 64)) = ji13 := by have h_ := hji13_; rw [Int.one_mul] at h_; exact h_
            have hji13v : (ji5) ≤ 64 → (IntKind.i64.wrap (2 ^ (ji5).toNat)) = ji13 := fun hle_ => by have h_ := hji13z hle_; rw [Int.one_mul] at h_; exact h_
            have hji13y : (wrap64 (1 * 2 ^ min (ji5).toNat 64)) = ji13 := (i64_w _).symm.trans hji13_
            have hji13x : (ji5) ≤ 64 → (wrap64 (1 * 2 ^ (ji5).toNat)) = ji13 := fun h_ => (i64_w _).symm.trans (hji13z h_)
            have H' := Aside0.mk H
            clear H
            go_wp2_with (first | ((with_reducible refine gate_callee (f := 24) rfl ?_); refine goesL_ (some 26) rfl rfl Tryd.func24 (by kernel_rfl) rfl #[.string a0, .bool ((Int.tmod (ji7) 2) != 0), .bool ((Int.tmod (ji9) 2) != 0)] rfl (by (try simp only [List.map_toArray, List.map_cons, List.map_nil]); first | done | (simp only [hji7, hji9]; rfl) | rfl | (simp only [List.length_drop, List.length_take]; rfl)) ?_; (with_reducible refine (mezzotintref05_logic.calls a0 ((Int.tmod (ji7) 2) != 0) ((Int.tmod (ji9) 2) != 0) true _ A10.out).mono ?_); rintro e w' ⟨rfl, ⟨nd, rfl⟩⟩; refine ⟨_, rfl, ?_⟩))
            go_roundg k1
            case measure => have := HK1.out; omega
            case rel => exact ⟨(wrap64 (x7_1 + (ji13))), (wrap64 (x8_1 + 1)), (by first | rfl | (simp; done) | (simp only [← hji13] <;> (first | rfl | simp)) | (simp [*]; done)), (by first | rfl | (simp; done) | (simp [*]; done)), H', ⟨by have := HK1.out; omega⟩, by repeat (first | exact Drawn0.refl _ | apply Drawn0.step)⟩
          · replace c11 := Bool.eq_false_iff.mpr c11
            subst c11
            have H1 : (mezzotintref05_bitwise.l0 k1 a0 a1 a2 x7_1 (wrap64 (x8_1 + 1))) = some r := by rw [if_neg (show ¬ (false = true) by decide)] at H; exact H
            clear H
            have H := H1
            clear H1
            have H' := Aside0.mk H
            clear H
            go_wp2_with (first | ((with_reducible refine gate_callee (f := 24) rfl ?_); refine goesL_ (some 26) rfl rfl Tryd.func24 (by kernel_rfl) rfl #[.string a0, .bool ((Int.tmod (ji7) 2) != 0), .bool ((Int.tmod (ji9) 2) != 0)] rfl (by (try simp only [List.map_toArray, List.map_cons, List.map_nil]); first | done | (simp only [hji7, hji9]; rfl) | rfl | (simp only [List.length_drop, List.length_take]; rfl)) ?_; (with_reducible refine (mezzotintref05_logic.calls a0 ((Int.tmod (ji7) 2) != 0) ((Int.tmod (ji9) 2) != 0) false _ A10.out).mono ?_); rintro e w' ⟨rfl, ⟨nd, rfl⟩⟩; refine ⟨_, rfl, ?_⟩))
            go_roundg k1
            case measure => have := HK1.out; omega
            case rel => exact ⟨(x7_1), (wrap64 (x8_1 + 1)), (by first | rfl | (simp; done) | (simp [*]; done)), (by first | rfl | (simp; done) | (simp [*]; done)), H', ⟨by have := HK1.out; omega⟩, by repeat (first | exact Drawn0.refl _ | apply Drawn0.step)⟩
        · rw [if_neg c6] at H
          exact absurd H (by simp)
      · rw [if_neg c4] at H
        have c4b0 : decide (x8_1 < 32) = false := decide_eq_false c4
        clear c4
        by_cases c14 : x7_1 ≥ 2147483648
        · rw [if_pos c14] at H
          have c14b0 : decide (2147483648 ≤ x7_1) = true := decide_eq_true c14
          clear c14
          obtain rfl := Option.some.inj H
          go_wp2
          go_ret
          exact ⟨by first | rfl | (simp; done) | (simp [*]; done), by repeat (first | exact Drawn0.refl _ | apply Drawn0.step)⟩
        · rw [if_neg c14] at H
          have c14b0 : decide (2147483648 ≤ x7_1) = false := decide_eq_false c14
          clear c14
          obtain rfl := Option.some.inj H
          go_wp2
          go_ret
          exact ⟨by first | rfl | (simp; done) | (simp [*]; done), by repeat (first | exact Drawn0.refl _ | apply Drawn0.step)⟩
def mezzotintref01_Add.f (a0 : Int) (a1 : Int) : Option (Int × Int) := (mezzotintref01_Fits.f a0).bind fun t381 => (if t381 = true then ((mezzotintref01_Fits.f a1).bind fun t382 => (if t382 = true then ((mezzotintref01_keep.f (wrap64 (a0 + a1))).bind fun bt383 => (some (bt383.1, bt383.2))) else (some (0, 11)))) else (some (0, 11)))
set_option maxHeartbeats 8000000 in
set_option maxRecDepth 100000 in
theorem mezzotintref01_Add.calls (a0 : Int) (a1 : Int) (r1 : Int) (r2 : Int) (w : World) (h : mezzotintref01_Add.f a0 a1 = some (r1, r2)) :
    Calls Tryd.prog 31 #[.int .i64 a0, .int .i64 a1] w fun e w' => e = .returned (.tuple #[.int .i64 r1, .int .i64 r2]) ∧ Drawn0 w w' := by
  have H : ((mezzotintref01_Fits.f a0).bind fun t381 => (if t381 = true then ((mezzotintref01_Fits.f a1).bind fun t382 => (if t382 = true then ((mezzotintref01_keep.f (wrap64 (a0 + a1))).bind fun bt383 => (some (bt383.1, bt383.2))) else (some (0, 11)))) else (some (0, 11)))) = some (r1, r2) := h
  clear h
  replace H := Option.bind_eq_some_iff.mp H
  obtain ⟨t381, A30, H⟩ := H
  replace H : (if t381 = true then ((mezzotintref01_Fits.f a1).bind fun t382 => (if t382 = true then ((mezzotintref01_keep.f (wrap64 (a0 + a1))).bind fun bt383 => (some (bt383.1, bt383.2))) else (some (0, 11)))) else (some (0, 11))) = some (r1, r2) := H
  have A3 := Aside0.mk A30
  clear A30
  by_cases c4 : t381 = true
  · subst c4
    have H1 : ((mezzotintref01_Fits.f a1).bind fun t382 => (if t382 = true then ((mezzotintref01_keep.f (wrap64 (a0 + a1))).bind fun bt383 => (some (bt383.1, bt383.2))) else (some (0, 11)))) = some (r1, r2) := by rw [if_pos rfl] at H; exact H
    clear H
    have H := H1
    clear H1
    replace H := Option.bind_eq_some_iff.mp H
    obtain ⟨t382, A50, H⟩ := H
    replace H : (if t382 = true then ((mezzotintref01_keep.f (wrap64 (a0 + a1))).bind fun bt383 => (some (bt383.1, bt383.2))) else (some (0, 11))) = some (r1, r2) := H
    have A5 := Aside0.mk A50
    clear A50
    by_cases c6 : t382 = true
    · subst c6
      have H1 : ((mezzotintref01_keep.f (wrap64 (a0 + a1))).bind fun bt383 => (some (bt383.1, bt383.2))) = some (r1, r2) := by rw [if_pos rfl] at H; exact H
      clear H
      have H := H1
      clear H1
      replace H := Option.bind_eq_some_iff.mp H
      obtain ⟨⟨t383, t384⟩, A70, H⟩ := H
      replace H : (some (t383, t384)) = some (r1, r2) := H
      have A7 := Aside0.mk A70
      clear A70
      simp only [Option.some.injEq, Prod.mk.injEq] at H
      obtain ⟨rfl, rfl⟩ := H
      go_enter Tryd.func31, Tryd.ntmps31
      go_wp2_with (first | ((with_reducible refine gate_callee (f := 37) rfl ?_); refine goesL_ (some 7) rfl rfl Tryd.func37 (by kernel_rfl) rfl #[.int .i64 a0] rfl (by (try simp only [List.map_toArray, List.map_cons, List.map_nil]); first | done | rfl | (simp only [List.length_drop, List.length_take]; rfl)) ?_; (with_reducible refine (mezzotintref01_Fits.calls a0 true _ A3.out).mono ?_); rintro e w' ⟨rfl, ⟨nd, rfl⟩⟩; refine ⟨_, rfl, ?_⟩) | (go_at_call 37; (with_reducible refine (mezzotintref01_Fits.calls a1 true _ A5.out).mono ?_); rintro e w' ⟨rfl, ⟨nd, rfl⟩⟩) | ((with_reducible refine gate_callee (f := 59) rfl ?_); refine goesL_ (some 17) rfl rfl Tryd.func59 (by kernel_rfl) rfl #[.int .i64 (wrap64 (a0 + a1))] rfl (by (try simp only [List.map_toArray, List.map_cons, List.map_nil]); first | done | rfl | (simp only [List.length_drop, List.length_take]; rfl)) ?_; (with_reducible refine (mezzotintref01_keep.calls (wrap64 (a0 + a1)) t383 t384 _ A7.out).mono ?_); rintro e w' ⟨rfl, ⟨nd, rfl⟩⟩; refine ⟨_, rfl, ?_⟩))
      go_ret2
      exact ⟨by first | rfl | (simp; done) | (simp [*]; done), by repeat (first | exact Drawn0.refl _ | apply Drawn0.step)⟩
    · replace c6 := Bool.eq_false_iff.mpr c6
      subst c6
      have H1 : (some (0, 11)) = some (r1, r2) := by rw [if_neg (show ¬ (false = true) by decide)] at H; exact H
      clear H
      have H := H1
      clear H1
      simp only [Option.some.injEq, Prod.mk.injEq] at H
      obtain ⟨rfl, rfl⟩ := H
      go_enter Tryd.func31, Tryd.ntmps31
      go_wp2_with (first | ((with_reducible refine gate_callee (f := 37) rfl ?_); refine goesL_ (some 7) rfl rfl Tryd.func37 (by kernel_rfl) rfl #[.int .i64 a0] rfl (by (try simp only [List.map_toArray, List.map_cons, List.map_nil]); first | done | rfl | (simp only [List.length_drop, List.length_take]; rfl)) ?_; (with_reducible refine (mezzotintref01_Fits.calls a0 true _ A3.out).mono ?_); rintro e w' ⟨rfl, ⟨nd, rfl⟩⟩; refine ⟨_, rfl, ?_⟩) | (go_at_call 37; (with_reducible refine (mezzotintref01_Fits.calls a1 false _ A5.out).mono ?_); rintro e w' ⟨rfl, ⟨nd, rfl⟩⟩))
      go_ret2
      exact ⟨by first | rfl | (simp; done) | (simp [*]; done), by repeat (first | exact Drawn0.refl _ | apply Drawn0.step)⟩
  · replace c4 := Bool.eq_false_iff.mpr c4
    subst c4
    have H1 : (some (0, 11)) = some (r1, r2) := by rw [if_neg (show ¬ (false = true) by decide)] at H; exact H
    clear H
    have H := H1
    clear H1
    simp only [Option.some.injEq, Prod.mk.injEq] at H
    obtain ⟨rfl, rfl⟩ := H
    go_enter Tryd.func31, Tryd.ntmps31
    go_wp2_with (first | ((with_reducible refine gate_callee (f := 37) rfl ?_); refine goesL_ (some 7) rfl rfl Tryd.func37 (by kernel_rfl) rfl #[.int .i64 a0] rfl (by (try simp only [List.map_toArray, List.map_cons, List.map_nil]); first | done | rfl | (simp only [List.length_drop, List.length_take]; rfl)) ?_; (with_reducible refine (mezzotintref01_Fits.calls a0 false _ A3.out).mono ?_); rintro e w' ⟨rfl, ⟨nd, rfl⟩⟩; refine ⟨_, rfl, ?_⟩))
    go_ret2
    exact ⟨by first | rfl | (simp; done) | (simp [*]; done), by repeat (first | exact Drawn0.refl _ | apply Drawn0.step)⟩
end Go.Proofs.YtmbnlklinmmkdaaDoor.PArithDoes
