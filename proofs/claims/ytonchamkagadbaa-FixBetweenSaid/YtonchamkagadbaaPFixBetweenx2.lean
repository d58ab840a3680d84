-- PRINTED BY print.sh 35421559b90ae4d0a3588c463048766b98c2df88dd9212a6774a882060cdf62d: not written by this session
import Derived.Test.YtonchamkagadbaaPFixBetweenx0
import Derived.Test.YtonchamkagadbaaPFixBetweenx1
namespace Go.Proofs.Ytonchamkagadbaa.PFixBetween
open Go.RowKit Go.Proofs.YtonchamkagadbaaW.PrintWords Go.Proofs.YtonchamkagadbaaW.PrintLast Go.Proofs.YtonchamkagadbaaW.PrintMore
attribute [local go_sem] max2_int min2_int max_two min_two max_three min_three max_four min_four   -- for this text's walks alone
set_option linter.unusedVariables false
set_option linter.unusedSimpArgs false

/-! ### mezzotintlaw01_FixBetween: function 8 -/
def mezzotintlaw01_FixBetween.j0 : Nat → Int → Int → Int → Int → Int → Int → Bool → Option (Bool)
  | 0, _, _, _, _, _, _, _ => none
  | k + 1, x3, x4, x5, x6, x7, x8, x66 => if x66 = true then (some false) else (if x6 = 0 then (if x5 < x3 then (some false) else (if (wrap64 (x5 - x4)) > 65536 then (some false) else (if (Int.tmod x5 65536) = 0 then (if x8 = 0 then (if x7 = x4 then (if (wrap64 (x3 - x4)) < 32768 then (some true) else (if x7 = (wrap64 (x4 + 65536)) then (some (decide ((wrap64 (x3 - x4)) ≥ 32768))) else (some false))) else (if x7 = (wrap64 (x4 + 65536)) then (some (decide ((wrap64 (x3 - x4)) ≥ 32768))) else (some false))) else (some true)) else (some false)))) else (if x8 = 0 then (if x7 = x4 then (if (wrap64 (x3 - x4)) < 32768 then (some true) else (if x7 = (wrap64 (x4 + 65536)) then (some (decide ((wrap64 (x3 - x4)) ≥ 32768))) else (some false))) else (if x7 = (wrap64 (x4 + 65536)) then (some (decide ((wrap64 (x3 - x4)) ≥ 32768))) else (some false))) else (some true)))
def mezzotintlaw01_FixBetween.f (k : Nat) (a0 : Int) : Option (Bool) := (fix_Floor.f (wrap64 (a0))).bind fun t122 => ((fix_Ceiling.f (wrap64 (a0))).bind fun bt123 => ((fix_Round.f (wrap64 (a0))).bind fun bt125 => ((fix_Truncate.f (wrap64 (a0))).bind fun t127 => ((mezzotintlaw01_answers.f k).bind fun t128 => (if t128 = true then (if t122 > (wrap64 (a0)) then (mezzotintlaw01_FixBetween.j0 k (wrap64 (a0)) t122 bt123.1 bt123.2 bt125.1 bt125.2 true) else (if (wrap64 ((wrap64 (a0)) - t122)) ≥ 65536 then (mezzotintlaw01_FixBetween.j0 k (wrap64 (a0)) t122 bt123.1 bt123.2 bt125.1 bt125.2 true) else (if (Int.tmod t122 65536) = 0 then (if (Int.tmod t127 65536) = 0 then (if t127 < 0 then (if t127 < (wrap64 (a0)) then (mezzotintlaw01_FixBetween.j0 k (wrap64 (a0)) t122 bt123.1 bt123.2 bt125.1 bt125.2 true) else (if t127 > 0 then (mezzotintlaw01_FixBetween.j0 k (wrap64 (a0)) t122 bt123.1 bt123.2 bt125.1 bt125.2 (decide (t127 > (wrap64 (a0))))) else (mezzotintlaw01_FixBetween.j0 k (wrap64 (a0)) t122 bt123.1 bt123.2 bt125.1 bt125.2 false))) else (if t127 > 0 then (mezzotintlaw01_FixBetween.j0 k (wrap64 (a0)) t122 bt123.1 bt123.2 bt125.1 bt125.2 (decide (t127 > (wrap64 (a0))))) else (mezzotintlaw01_FixBetween.j0 k (wrap64 (a0)) t122 bt123.1 bt123.2 bt125.1 bt125.2 false))) else (mezzotintlaw01_FixBetween.j0 k (wrap64 (a0)) t122 bt123.1 bt123.2 bt125.1 bt125.2 true)) else (mezzotintlaw01_FixBetween.j0 k (wrap64 (a0)) t122 bt123.1 bt123.2 bt125.1 bt125.2 true)))) else (mezzotintlaw01_FixBetween.j0 k (wrap64 (a0)) t122 bt123.1 bt123.2 bt125.1 bt125.2 true))))))
theorem mezzotintlaw01_FixBetween.mono_l : ∀ k, (∀ y0 y1 y2 y3 y4 y5 y6, LeO (mezzotintlaw01_FixBetween.j0 k y0 y1 y2 y3 y4 y5 y6) (mezzotintlaw01_FixBetween.j0 (k + 1) y0 y1 y2 y3 y4 y5 y6))
  | 0 => fun _ _ _ _ _ _ _ r h => by simp [mezzotintlaw01_FixBetween.j0] at h
  | k + 1 => by
    have ih0 := mezzotintlaw01_FixBetween.mono_l k
    · intro y0 y1 y2 y3 y4 y5 y6
      unfold mezzotintlaw01_FixBetween.j0
      repeat' first
      | (with_reducible exact ih0 _ _ _ _ _ _ _)
      | (with_reducible exact mezzotintlaw01_answers.mono _)
      | (with_reducible exact LeO.refl _)
      | (with_reducible exact LeO.none _)
      | (with_reducible refine LeO.ite ?_ ?_)
      | (with_reducible refine LeO.bind ?_ (fun _ => ?_))
      | exact ih0 _ _ _ _ _ _ _
      | exact mezzotintlaw01_answers.mono _
      | exact LeO.none _
      | refine LeO.ite ?_ ?_
      | refine LeO.bind ?_ (fun _ => ?_)
theorem mezzotintlaw01_FixBetween.mono : ∀ a0 k, LeO (mezzotintlaw01_FixBetween.f k a0) (mezzotintlaw01_FixBetween.f (k + 1) a0) := by
  intro a0 k
  have ih0 := mezzotintlaw01_FixBetween.mono_l k
  unfold mezzotintlaw01_FixBetween.f
  repeat' first
      | (with_reducible exact ih0 _ _ _ _ _ _ _)
      | (with_reducible exact mezzotintlaw01_answers.mono _)
      | (with_reducible exact LeO.refl _)
      | (with_reducible exact LeO.none _)
      | (with_reducible refine LeO.ite ?_ ?_)
      | (with_reducible refine LeO.bind ?_ (fun _ => ?_))
      | exact ih0 _ _ _ _ _ _ _
      | exact mezzotintlaw01_answers.mono _
      | exact LeO.none _
      | refine LeO.ite ?_ ?_
      | refine LeO.bind ?_ (fun _ => ?_)
set_option maxHeartbeats 8000000 in
set_option maxRecDepth 100000 in
theorem mezzotintlaw01_FixBetween.calls (k : Nat) (a0 : Int) (r : Bool) (w : World) (h : mezzotintlaw01_FixBetween.f k a0 = some r) :
    Calls Try.prog 8 #[.int .i32 a0] w fun e w' => e = .returned (.bool r) ∧ Below w.heap.size w w' := by
  have HB := Aside0.mk (Below.refl w.heap.size w)
  have H : ((fix_Floor.f (wrap64 (a0))).bind fun t122 => ((fix_Ceiling.f (wrap64 (a0))).bind fun bt123 => ((fix_Round.f (wrap64 (a0))).bind fun bt125 => ((fix_Truncate.f (wrap64 (a0))).bind fun t127 => ((mezzotintlaw01_answers.f k).bind fun t128 => (if t128 = true then (if t122 > (wrap64 (a0)) then (mezzotintlaw01_FixBetween.j0 k (wrap64 (a0)) t122 bt123.1 bt123.2 bt125.1 bt125.2 true) else (if (wrap64 ((wrap64 (a0)) - t122)) ≥ 65536 then (mezzotintlaw01_FixBetween.j0 k (wrap64 (a0)) t122 bt123.1 bt123.2 bt125.1 bt125.2 true) else (if (Int.tmod t122 65536) = 0 then (if (Int.tmod t127 65536) = 0 then (if t127 < 0 then (if t127 < (wrap64 (a0)) then (mezzotintlaw01_FixBetween.j0 k (wrap64 (a0)) t122 bt123.1 bt123.2 bt125.1 bt125.2 true) else (if t127 > 0 then (mezzotintlaw01_FixBetween.j0 k (wrap64 (a0)) t122 bt123.1 bt123.2 bt125.1 bt125.2 (decide (t127 > (wrap64 (a0))))) else (mezzotintlaw01_FixBetween.j0 k (wrap64 (a0)) t122 bt123.1 bt123.2 bt125.1 bt125.2 false))) else (if t127 > 0 then (mezzotintlaw01_FixBetween.j0 k (wrap64 (a0)) t122 bt123.1 bt123.2 bt125.1 bt125.2 (decide (t127 > (wrap64 (a0))))) else (mezzotintlaw01_FixBetween.j0 k (wrap64 (a0)) t122 bt123.1 bt123.2 bt125.1 bt125.2 false))) else (mezzotintlaw01_FixBetween.j0 k (wrap64 (a0)) t122 bt123.1 bt123.2 bt125.1 bt125.2 true)) else (mezzotintlaw01_FixBetween.j0 k (wrap64 (a0)) t122 bt123.1 bt123.2 bt125.1 bt125.2 true)))) else (mezzotintlaw01_FixBetween.j0 k (wrap64 (a0)) t122 bt123.1 bt123.2 bt125.1 bt125.2 true))))))) = some r := h
  clear h
  replace H := Option.bind_eq_some_iff.mp H
  obtain ⟨t122, A20, H⟩ := H
  replace H : ((fix_Ceiling.f (wrap64 (a0))).bind fun bt123 => ((fix_Round.f (wrap64 (a0))).bind fun bt125 => ((fix_Truncate.f (wrap64 (a0))).bind fun t127 => ((mezzotintlaw01_answers.f k).bind fun t128 => (if t128 = true then (if t122 > (wrap64 (a0)) then (mezzotintlaw01_FixBetween.j0 k (wrap64 (a0)) t122 bt123.1 bt123.2 bt125.1 bt125.2 true) else (if (wrap64 ((wrap64 (a0)) - t122)) ≥ 65536 then (mezzotintlaw01_FixBetween.j0 k (wrap64 (a0)) t122 bt123.1 bt123.2 bt125.1 bt125.2 true) else (if (Int.tmod t122 65536) = 0 then (if (Int.tmod t127 65536) = 0 then (if t127 < 0 then (if t127 < (wrap64 (a0)) then (mezzotintlaw01_FixBetween.j0 k (wrap64 (a0)) t122 bt123.1 bt123.2 bt125.1 bt125.2 true) else (if t127 > 0 then (mezzotintlaw01_FixBetween.j0 k (wrap64 (a0)) t122 bt123.1 bt123.2 bt125.1 bt125.2 (decide (t127 > (wrap64 (a0))))) else (mezzotintlaw01_FixBetween.j0 k (wrap64 (a0)) t122 bt123.1 bt123.2 bt125.1 bt125.2 false))) else (if t127 > 0 then (mezzotintlaw01_FixBetween.j0 k (wrap64 (a0)) t122 bt123.1 bt123.2 bt125.1 bt125.2 (decide (t127 > (wrap64 (a0))))) else (mezzotintlaw01_FixBetween.j0 k (wrap64 (a0)) t122 bt123.1 bt123.2 bt125.1 bt125.2 false))) else (mezzotintlaw01_FixBetween.j0 k (wrap64 (a0)) t122 bt123.1 bt123.2 bt125.1 bt125.2 true)) else (mezzotintlaw01_FixBetween.j0 k (wrap64 (a0)) t122 bt123.1 bt123.2 bt125.1 bt125.2 true)))) else (mezzotintlaw01_FixBetween.j0 k (wrap64 (a0)) t122 bt123.1 bt123.2 bt125.1 bt125.2 true)))))) = some r := H
  have A2 := Aside0.mk A20
  clear A20
  replace H := Option.bind_eq_some_iff.mp H
  obtain ⟨⟨t123, t124⟩, A30, H⟩ := H
  replace H : ((fix_Round.f (wrap64 (a0))).bind fun bt125 => ((fix_Truncate.f (wrap64 (a0))).bind fun t127 => ((mezzotintlaw01_answers.f k).bind fun t128 => (if t128 = true then (if t122 > (wrap64 (a0)) then (mezzotintlaw01_FixBetween.j0 k (wrap64 (a0)) t122 t123 t124 bt125.1 bt125.2 true) else (if (wrap64 ((wrap64 (a0)) - t122)) ≥ 65536 then (mezzotintlaw01_FixBetween.j0 k (wrap64 (a0)) t122 t123 t124 bt125.1 bt125.2 true) else (if (Int.tmod t122 65536) = 0 then (if (Int.tmod t127 65536) = 0 then (if t127 < 0 then (if t127 < (wrap64 (a0)) then (mezzotintlaw01_FixBetween.j0 k (wrap64 (a0)) t122 t123 t124 bt125.1 bt125.2 true) else (if t127 > 0 then (mezzotintlaw01_FixBetween.j0 k (wrap64 (a0)) t122 t123 t124 bt125.1 bt125.2 (decide (t127 > (wrap64 (a0))))) else (mezzotintlaw01_FixBetween.j0 k (wrap64 (a0)) t122 t123 t124 bt125.1 bt125.2 false))) else (if t127 > 0 then (mezzotintlaw01_FixBetween.j0 k (wrap64 (a0)) t122 t123 t124 bt125.1 bt125.2 (decide (t127 > (wrap64 (a0))))) else (mezzotintlaw01_FixBetween.j0 k (wrap64 (a0)) t122 t123 t124 bt125.1 bt125.2 false))) else (mezzotintlaw01_FixBetween.j0 k (wrap64 (a0)) t122 t123 t124 bt125.1 bt125.2 true)) else (mezzotintlaw01_FixBetween.j0 k (wrap64 (a0)) t122 t123 t124 bt125.1 bt125.2 true)))) else (mezzotintlaw01_FixBetween.j0 k (wrap64 (a0)) t122 t123 t124 bt125.1 bt125.2 true))))) = some r := H
  have A3 := Aside0.mk A30
  clear A30
  replace H := Option.bind_eq_some_iff.mp H
  obtain ⟨⟨t125, t126⟩, A40, H⟩ := H
  replace H : ((fix_Truncate.f (wrap64 (a0))).bind fun t127 => ((mezzotintlaw01_answers.f k).bind fun t128 => (if t128 = true then (if t122 > (wrap64 (a0)) then (mezzotintlaw01_FixBetween.j0 k (wrap64 (a0)) t122 t123 t124 t125 t126 true) else (if (wrap64 ((wrap64 (a0)) - t122)) ≥ 65536 then (mezzotintlaw01_FixBetween.j0 k (wrap64 (a0)) t122 t123 t124 t125 t126 true) else (if (Int.tmod t122 65536) = 0 then (if (Int.tmod t127 65536) = 0 then (if t127 < 0 then (if t127 < (wrap64 (a0)) then (mezzotintlaw01_FixBetween.j0 k (wrap64 (a0)) t122 t123 t124 t125 t126 true) else (if t127 > 0 then (mezzotintlaw01_FixBetween.j0 k (wrap64 (a0)) t122 t123 t124 t125 t126 (decide (t127 > (wrap64 (a0))))) else (mezzotintlaw01_FixBetween.j0 k (wrap64 (a0)) t122 t123 t124 t125 t126 false))) else (if t127 > 0 then (mezzotintlaw01_FixBetween.j0 k (wrap64 (a0)) t122 t123 t124 t125 t126 (decide (t127 > (wrap64 (a0))))) else (mezzotintlaw01_FixBetween.j0 k (wrap64 (a0)) t122 t123 t124 t125 t126 false))) else (mezzotintlaw01_FixBetween.j0 k (wrap64 (a0)) t122 t123 t124 t125 t126 true)) else (mezzotintlaw01_FixBetween.j0 k (wrap64 (a0)) t122 t123 t124 t125 t126 true)))) else (mezzotintlaw01_FixBetween.j0 k (wrap64 (a0)) t122 t123 t124 t125 t126 true)))) = some r := H
  have A4 := Aside0.mk A40
  clear A40
  replace H := Option.bind_eq_some_iff.mp H
  obtain ⟨t127, A50, H⟩ := H
  replace H : ((mezzotintlaw01_answers.f k).bind fun t128 => (if t128 = true then (if t122 > (wrap64 (a0)) then (mezzotintlaw01_FixBetween.j0 k (wrap64 (a0)) t122 t123 t124 t125 t126 true) else (if (wrap64 ((wrap64 (a0)) - t122)) ≥ 65536 then (mezzotintlaw01_FixBetween.j0 k (wrap64 (a0)) t122 t123 t124 t125 t126 true) else (if (Int.tmod t122 65536) = 0 then (if (Int.tmod t127 65536) = 0 then (if t127 < 0 then (if t127 < (wrap64 (a0)) then (mezzotintlaw01_FixBetween.j0 k (wrap64 (a0)) t122 t123 t124 t125 t126 true) else (if t127 > 0 then (mezzotintlaw01_FixBetween.j0 k (wrap64 (a0)) t122 t123 t124 t125 t126 (decide (t127 > (wrap64 (a0))))) else (mezzotintlaw01_FixBetween.j0 k (wrap64 (a0)) t122 t123 t124 t125 t126 false))) else (if t127 > 0 then (mezzotintlaw01_FixBetween.j0 k (wrap64 (a0)) t122 t123 t124 t125 t126 (decide (t127 > (wrap64 (a0))))) else (mezzotintlaw01_FixBetween.j0 k (wrap64 (a0)) t122 t123 t124 t125 t126 false))) else (mezzotintlaw01_FixBetween.j0 k (wrap64 (a0)) t122 t123 t124 t125 t126 true)) else (mezzotintlaw01_FixBetween.j0 k (wrap64 (a0)) t122 t123 t124 t125 t126 true)))) else (mezzotintlaw01_FixBetween.j0 k (wrap64 (a0)) t122 t123 t124 t125 t126 true))) = some r := H
  have A5 := Aside0.mk A50
  clear A50
  have HC6 := Aside0.mk H
  clear H
  go_enter Try.func8, Try.ntmps8
  go_upto_region 6 with (first | ((with_reducible refine gate_callee (f := 25) rfl ?_); refine goesL_ (some 13) rfl rfl Try.func25 (by kernel_rfl) rfl #[.int .i64 (wrap64 (a0))] rfl (by (try simp only [List.map_toArray, List.map_cons, List.map_nil]); first | done | rfl | (simp only [List.length_drop, List.length_take]; rfl)) ?_; (with_reducible refine (fix_Floor.calls (wrap64 (a0)) t122 _ A2.out).mono ?_); rintro e w' ⟨rfl, ⟨nd, rfl⟩⟩; refine ⟨_, rfl, ?_⟩) | ((with_reducible refine gate_callee (f := 26) rfl ?_); refine goesL_ (some 16) rfl rfl Try.func26 (by kernel_rfl) rfl #[.int .i64 (wrap64 (a0))] rfl (by (try simp only [List.map_toArray, List.map_cons, List.map_nil]); first | done | rfl | (simp only [List.length_drop, List.length_take]; rfl)) ?_; (with_reducible refine (fix_Ceiling.calls (wrap64 (a0)) t123 t124 _ A3.out).mono ?_); rintro e w' ⟨rfl, ⟨nd, rfl⟩⟩; refine ⟨_, rfl, ?_⟩) | ((with_reducible refine gate_callee (f := 27) rfl ?_); refine goesL_ (some 21) rfl rfl Try.func27 (by kernel_rfl) rfl #[.int .i64 (wrap64 (a0))] rfl (by (try simp only [List.map_toArray, List.map_cons, List.map_nil]); first | done | rfl | (simp only [List.length_drop, List.length_take]; rfl)) ?_; (with_reducible refine (fix_Round.calls (wrap64 (a0)) t125 t126 _ A4.out).mono ?_); rintro e w' ⟨rfl, ⟨nd, rfl⟩⟩; refine ⟨_, rfl, ?_⟩) | ((with_reducible refine gate_callee (f := 28) rfl ?_); refine goesL_ (some 25) rfl rfl Try.func28 (by kernel_rfl) rfl #[.int .i64 (wrap64 (a0))] rfl (by (try simp only [List.map_toArray, List.map_cons, List.map_nil]); first | done | rfl | (simp only [List.length_drop, List.length_take]; rfl)) ?_; (with_reducible refine (fix_Truncate.calls (wrap64 (a0)) t127 _ A5.out).mono ?_); rintro e w' ⟨rfl, ⟨nd, rfl⟩⟩; refine ⟨_, rfl, ?_⟩))
  (try simp only [Act.put, List.setIfInBounds_toArray, List.set_cons_zero, List.set_cons_succ])
  go_cut [66] (fun v66 wc => ∃ (kq : Nat) (x66_5 : Bool), v66 = .bool x66_5 ∧ Aside0 (mezzotintlaw01_FixBetween.j0 kq (wrap64 (a0)) t122 t123 t124 t125 t126 x66_5 = some r) ∧ Aside0 (kq ≤ k) ∧ Aside0 (Below w.heap.size w wc))
  case first =>
    have H := HC6.out
    clear HC6
    replace H := Option.bind_eq_some_iff.mp H
    obtain ⟨t128, A70, H⟩ := H
    replace H : (if t128 = true then (if t122 > (wrap64 (a0)) then (mezzotintlaw01_FixBetween.j0 k (wrap64 (a0)) t122 t123 t124 t125 t126 true) else (if (wrap64 ((wrap64 (a0)) - t122)) ≥ 65536 then (mezzotintlaw01_FixBetween.j0 k (wrap64 (a0)) t122 t123 t124 t125 t126 true) else (if (Int.tmod t122 65536) = 0 then (if (Int.tmod t127 65536) = 0 then (if t127 < 0 then (if t127 < (wrap64 (a0)) then (mezzotintlaw01_FixBetween.j0 k (wrap64 (a0)) t122 t123 t124 t125 t126 true) else (if t127 > 0 then (mezzotintlaw01_FixBetween.j0 k (wrap64 (a0)) t122 t123 t124 t125 t126 (decide (t127 > (wrap64 (a0))))) else (mezzotintlaw01_FixBetween.j0 k (wrap64 (a0)) t122 t123 t124 t125 t126 false))) else (if t127 > 0 then (mezzotintlaw01_FixBetween.j0 k (wrap64 (a0)) t122 t123 t124 t125 t126 (decide (t127 > (wrap64 (a0))))) else (mezzotintlaw01_FixBetween.j0 k (wrap64 (a0)) t122 t123 t124 t125 t126 false))) else (mezzotintlaw01_FixBetween.j0 k (wrap64 (a0)) t122 t123 t124 t125 t126 true)) else (mezzotintlaw01_FixBetween.j0 k (wrap64 (a0)) t122 t123 t124 t125 t126 true)))) else (mezzotintlaw01_FixBetween.j0 k (wrap64 (a0)) t122 t123 t124 t125 t126 true)) = some r := H
    have A7 := Aside0.mk A70
    clear A70
    by_cases c8 : t128 = true
    · subst c8
      have H1 : (if t122 > (wrap64 (a0)) then (mezzotintlaw01_FixBetween.j0 k (wrap64 (a0)) t122 t123 t124 t125 t126 true) else (if (wrap64 ((wrap64 (a0)) - t122)) ≥ 65536 then (mezzotintlaw01_FixBetween.j0 k (wrap64 (a0)) t122 t123 t124 t125 t126 true) else (if (Int.tmod t122 65536) = 0 then (if (Int.tmod t127 65536) = 0 then (if t127 < 0 then (if t127 < (wrap64 (a0)) then (mezzotintlaw01_FixBetween.j0 k (wrap64 (a0)) t122 t123 t124 t125 t126 true) else (if t127 > 0 then (mezzotintlaw01_FixBetween.j0 k (wrap64 (a0)) t122 t123 t124 t125 t126 (decide (t127 > (wrap64 (a0))))) else (mezzotintlaw01_FixBetween.j0 k (wrap64 (a0)) t122 t123 t124 t125 t126 false))) else (if t127 > 0 then (mezzotintlaw01_FixBetween.j0 k (wrap64 (a0)) t122 t123 t124 t125 t126 (decide (t127 > (wrap64 (a0))))) else (mezzotintlaw01_FixBetween.j0 k (wrap64 (a0)) t122 t123 t124 t125 t126 false))) else (mezzotintlaw01_FixBetween.j0 k (wrap64 (a0)) t122 t123 t124 t125 t126 true)) else (mezzotintlaw01_FixBetween.j0 k (wrap64 (a0)) t122 t123 t124 t125 t126 true)))) = some r := by rw [if_pos rfl] at H; exact H
      clear H
      have H := H1
      clear H1
      by_cases c9 : t122 > (wrap64 (a0))
      · rw [if_pos c9] at H
        have c9b0 : decide ((wrap64 (a0)) < t122) = true := decide_eq_true c9
        clear c9
        (first | rw [c9b0] | (simp only [i64_w, i32_w]; rw [c9b0]) | skip)
        have H' := Aside0.mk H
        clear H
        go_wp2_with (first | ((with_reducible refine gate_callee (f := 14) rfl ?_); refine goesL_ (some 26) rfl rfl Try.func14 (by kernel_rfl) rfl #[] rfl (by (try simp only [List.map_toArray, List.map_cons, List.map_nil]); first | done | rfl | (simp only [List.length_drop, List.length_take]; rfl)) ?_; (with_reducible refine (mezzotintlaw01_answers.calls k  true _ A7.out).mono ?_); rintro e w10 ⟨rfl, hb⟩; refine ⟨_, rfl, ?_⟩; have n0_ := Aside0.mk (below_step (by repeat (first | (with_reducible first | exact HB.out | apply below_alloc | apply pw_below_drewN | apply below_drew1) | exact HB.out)) hb); clear HB; have HB := n0_; clear n0_; (try clear hb); (try clear hb2); (try clear hk); (try clear hi)))
        go_meet
        case rel => exact ⟨_, (true), (by first | rfl | (simp; done) | (simp [*]; done)), H', ⟨by first | omega | exact Nat.le_refl _⟩, ⟨by repeat (first | (with_reducible first | exact HB.out | apply below_alloc | apply pw_below_drewN | apply below_drew1) | exact HB.out)⟩⟩
      · rw [if_neg c9] at H
        have c9b0 : decide ((wrap64 (a0)) < t122) = false := decide_eq_false c9
        clear c9
        (first | rw [c9b0] | (simp only [i64_w, i32_w]; rw [c9b0]) | skip)
        by_cases c11 : (wrap64 ((wrap64 (a0)) - t122)) ≥ 65536
        · rw [if_pos c11] at H
          have c11b0 : decide (65536 ≤ (wrap64 ((wrap64 (a0)) - t122))) = true := decide_eq_true c11
          clear c11
          have H' := Aside0.mk H
          clear H
          go_wp2_with (first | ((with_reducible refine gate_callee (f := 14) rfl ?_); refine goesL_ (some 26) rfl rfl Try.func14 (by kernel_rfl) rfl #[] rfl (by (try simp only [List.map_toArray, List.map_cons, List.map_nil]); first | done | rfl | (simp only [List.length_drop, List.length_take]; rfl)) ?_; (with_reducible refine (mezzotintlaw01_answers.calls k  true _ A7.out).mono ?_); rintro e w12 ⟨rfl, hb⟩; refine ⟨_, rfl, ?_⟩; have n0_ := Aside0.mk (below_step (by repeat (first | (with_reducible first | exact HB.out | apply below_alloc | apply pw_below_drewN | apply below_drew1) | exact HB.out)) hb); clear HB; have HB := n0_; clear n0_; (try clear hb); (try clear hb2); (try clear hk); (try clear hi)))
          go_meet
          case rel => exact ⟨_, (true), (by first | rfl | (simp; done) | (simp [*]; done)), H', ⟨by first | omega | exact Nat.le_refl _⟩, ⟨by repeat (first | (with_reducible first | exact HB.out | apply below_alloc | apply pw_below_drewN | apply below_drew1) | exact HB.out)⟩⟩
        · rw [if_neg c11] at H
          have c11b0 : decide (65536 ≤ (wrap64 ((wrap64 (a0)) - t122))) = false := decide_eq_false c11
          clear c11
          by_cases c13 : (Int.tmod t122 65536) = 0
          · rw [if_pos c13] at H
            have c13b0 : ((Int.tmod t122 65536) == 0) = true := beq_iff_eq.mpr c13
            have c13b1 : ((Int.tmod t122 65536) != 0) = false := bne_eq_false_iff_eq.mpr c13
            clear c13
            by_cases c14 : (Int.tmod t127 65536) = 0
            · rw [if_pos c14] at H
              have c14b0 : ((Int.tmod t127 65536) == 0) = true := beq_iff_eq.mpr c14
              have c14b1 : ((Int.tmod t127 65536) != 0) = false := bne_eq_false_iff_eq.mpr c14
              clear c14
              by_cases c15 : t127 < 0
              · rw [if_pos c15] at H
                have c15b0 : decide (t127 < 0) = true := decide_eq_true c15
                clear c15
                by_cases c16 : t127 < (wrap64 (a0))
                · rw [if_pos c16] at H
                  have c16b0 : decide (t127 < (wrap64 (a0))) = true := decide_eq_true c16
                  clear c16
                  have H' := Aside0.mk H
                  clear H
                  go_wp2_with (first | ((with_reducible refine gate_callee (f := 14) rfl ?_); refine goesL_ (some 26) rfl rfl Try.func14 (by kernel_rfl) rfl #[] rfl (by (try simp only [List.map_toArray, List.map_cons, List.map_nil]); first | done | rfl | (simp only [List.length_drop, List.length_take]; rfl)) ?_; (with_reducible refine (mezzotintlaw01_answers.calls k  true _ A7.out).mono ?_); rintro e w17 ⟨rfl, hb⟩; refine ⟨_, rfl, ?_⟩; have n0_ := Aside0.mk (below_step (by repeat (first | (with_reducible first | exact HB.out | apply below_alloc | apply pw_below_drewN | apply below_drew1) | exact HB.out)) hb); clear HB; have HB := n0_; clear n0_; (try clear hb); (try clear hb2); (try clear hk); (try clear hi)))
                  go_meet
                  case rel => exact ⟨_, (true), (by first | rfl | (simp; done) | (simp [*]; done)), H', ⟨by first | omega | exact Nat.le_refl _⟩, ⟨by repeat (first | (with_reducible first | exact HB.out | apply below_alloc | apply pw_below_drewN | apply below_drew1) | exact HB.out)⟩⟩
                · rw [if_neg c16] at H
                  have c16b0 : decide (t127 < (wrap64 (a0))) = false := decide_eq_false c16
                  clear c16
                  by_cases c18 : t127 > 0
                  · rw [if_pos c18] at H
                    have c18b0 : decide (0 < t127) = true := decide_eq_true c18
                    clear c18
                    have H' := Aside0.mk H
                    clear H
                    go_wp2_with (first | ((with_reducible refine gate_callee (f := 14) rfl ?_); refine goesL_ (some 26) rfl rfl Try.func14 (by kernel_rfl) rfl #[] rfl (by (try simp only [List.map_toArray, List.map_cons, List.map_nil]); first | done | rfl | (simp only [List.length_drop, List.length_take]; rfl)) ?_; (with_reducible refine (mezzotintlaw01_answers.calls k  true _ A7.out).mono ?_); rintro e w19 ⟨rfl, hb⟩; refine ⟨_, rfl, ?_⟩; have n0_ := Aside0.mk (below_step (by repeat (first | (with_reducible first | exact HB.out | apply below_alloc | apply pw_below_drewN | apply below_drew1) | exact HB.out)) hb); clear HB; have HB := n0_; clear n0_; (try clear hb); (try clear hb2); (try clear hk); (try clear hi)))
                    go_meet
                    case rel => exact ⟨_, (decide (t127 > (wrap64 (a0)))), (by first | rfl | (simp; done) | (simp [*]; done)), H', ⟨by first | omega | exact Nat.le_refl _⟩, ⟨by repeat (first | (with_reducible first | exact HB.out | apply below_alloc | apply pw_below_drewN | apply below_drew1) | exact HB.out)⟩⟩
                  · rw [if_neg c18] at H
                    have c18b0 : decide (0 < t127) = false := decide_eq_false c18
                    clear c18
                    have H' := Aside0.mk H
                    clear H
                    go_wp2_with (first | ((with_reducible refine gate_callee (f := 14) rfl ?_); refine goesL_ (some 26) rfl rfl Try.func14 (by kernel_rfl) rfl #[] rfl (by (try simp only [List.map_toArray, List.map_cons, List.map_nil]); first | done | rfl | (simp only [List.length_drop, List.length_take]; rfl)) ?_; (with_reducible refine (mezzotintlaw01_answers.calls k  true _ A7.out).mono ?_); rintro e w20 ⟨rfl, hb⟩; refine ⟨_, rfl, ?_⟩; have n0_ := Aside0.mk (below_step (by repeat (first | (with_reducible first | exact HB.out | apply below_alloc | apply pw_below_drewN | apply below_drew1) | exact HB.out)) hb); clear HB; have HB := n0_; clear n0_; (try clear hb); (try clear hb2); (try clear hk); (try clear hi)))
                    go_meet
                    case rel => exact ⟨_, (false), (by first | rfl | (simp; done) | (simp [*]; done)), H', ⟨by first | omega | exact Nat.le_refl _⟩, ⟨by repeat (first | (with_reducible first | exact HB.out | apply below_alloc | apply pw_below_drewN | apply below_drew1) | exact HB.out)⟩⟩
              · rw [if_neg c15] at H
                have c15b0 : decide (t127 < 0) = false := decide_eq_false c15
                clear c15
                by_cases c21 : t127 > 0
                · rw [if_pos c21] at H
                  have c21b0 : decide (0 < t127) = true := decide_eq_true c21
                  clear c21
                  have H' := Aside0.mk H
                  clear H
                  go_wp2_with (first | ((with_reducible refine gate_callee (f := 14) rfl ?_); refine goesL_ (some 26) rfl rfl Try.func14 (by kernel_rfl) rfl #[] rfl (by (try simp only [List.map_toArray, List.map_cons, List.map_nil]); first | done | rfl | (simp only [List.length_drop, List.length_take]; rfl)) ?_; (with_reducible refine (mezzotintlaw01_answers.calls k  true _ A7.out).mono ?_); rintro e w22 ⟨rfl, hb⟩; refine ⟨_, rfl, ?_⟩; have n0_ := Aside0.mk (below_step (by repeat (first | (with_reducible first | exact HB.out | apply below_alloc | apply pw_below_drewN | apply below_drew1) | exact HB.out)) hb); clear HB; have HB := n0_; clear n0_; (try clear hb); (try clear hb2); (try clear hk); (try clear hi)))
                  go_meet
                  case rel => exact ⟨_, (decide (t127 > (wrap64 (a0)))), (by first | rfl | (simp; done) | (simp [*]; done)), H', ⟨by first | omega | exact Nat.le_refl _⟩, ⟨by repeat (first | (with_reducible first | exact HB.out | apply below_alloc | apply pw_below_drewN | apply below_drew1) | exact HB.out)⟩⟩
                · rw [if_neg c21] at H
                  have c21b0 : decide (0 < t127) = false := decide_eq_false c21
                  clear c21
                  have H' := Aside0.mk H
                  clear H
                  go_wp2_with (first | ((with_reducible refine gate_callee (f := 14) rfl ?_); refine goesL_ (some 26) rfl rfl Try.func14 (by kernel_rfl) rfl #[] rfl (by (try simp only [List.map_toArray, List.map_cons, List.map_nil]); first | done | rfl | (simp only [List.length_drop, List.length_take]; rfl)) ?_; (with_reducible refine (mezzotintlaw01_answers.calls k  true _ A7.out).mono ?_); rintro e w23 ⟨rfl, hb⟩; refine ⟨_, rfl, ?_⟩; have n0_ := Aside0.mk (below_step (by repeat (first | (with_reducible first | exact HB.out | apply below_alloc | apply pw_below_drewN | apply below_drew1) | exact HB.out)) hb); clear HB; have HB := n0_; clear n0_; (try clear hb); (try clear hb2); (try clear hk); (try clear hi)))
                  go_meet
                  case rel => exact ⟨_, (false), (by first | rfl | (simp; done) | (simp [*]; done)), H', ⟨by first | omega | exact Nat.le_refl _⟩, ⟨by repeat (first | (with_reducible first | exact HB.out | apply below_alloc | apply pw_below_drewN | apply below_drew1) | exact HB.out)⟩⟩
            · rw [if_neg c14] at H
              have c14b0 : ((Int.tmod t127 65536) == 0) = false := beq_eq_false_iff_ne.mpr c14
              have c14b1 : ((Int.tmod t127 65536) != 0) = true := bne_iff_ne.mpr c14
              have H' := Aside0.mk H
              clear H
              go_wp2_with (first | ((with_reducible refine gate_callee (f := 14) rfl ?_); refine goesL_ (some 26) rfl rfl Try.func14 (by kernel_rfl) rfl #[] rfl (by (try simp only [List.map_toArray, List.map_cons, List.map_nil]); first | done | rfl | (simp only [List.length_drop, List.length_take]; rfl)) ?_; (with_reducible refine (mezzotintlaw01_answers.calls k  true _ A7.out).mono ?_); rintro e w24 ⟨rfl, hb⟩; refine ⟨_, rfl, ?_⟩; have n0_ := Aside0.mk (below_step (by repeat (first | (with_reducible first | exact HB.out | apply below_alloc | apply pw_below_drewN | apply below_drew1) | exact HB.out)) hb); clear HB; have HB := n0_; clear n0_; (try clear hb); (try clear hb2); (try clear hk); (try clear hi)))
              go_meet
              case rel => exact ⟨_, (true), (by first | rfl | (simp; done) | (simp [*]; done)), H', ⟨by first | omega | exact Nat.le_refl _⟩, ⟨by repeat (first | (with_reducible first | exact HB.out | apply below_alloc | apply pw_below_drewN | apply below_drew1) | exact HB.out)⟩⟩
          · rw [if_neg c13] at H
            have c13b0 : ((Int.tmod t122 65536) == 0) = false := beq_eq_false_iff_ne.mpr c13
            have c13b1 : ((Int.tmod t122 65536) != 0) = true := bne_iff_ne.mpr c13
            have H' := Aside0.mk H
            clear H
            go_wp2_with (first | ((with_reducible refine gate_callee (f := 14) rfl ?_); refine goesL_ (some 26) rfl rfl Try.func14 (by kernel_rfl) rfl #[] rfl (by (try simp only [List.map_toArray, List.map_cons, List.map_nil]); first | done | rfl | (simp only [List.length_drop, List.length_take]; rfl)) ?_; (with_reducible refine (mezzotintlaw01_answers.calls k  true _ A7.out).mono ?_); rintro e w25 ⟨rfl, hb⟩; refine ⟨_, rfl, ?_⟩; have n0_ := Aside0.mk (below_step (by repeat (first | (with_reducible first | exact HB.out | apply below_alloc | apply pw_below_drewN | apply below_drew1) | exact HB.out)) hb); clear HB; have HB := n0_; clear n0_; (try clear hb); (try clear hb2); (try clear hk); (try clear hi)))
            go_meet
            case rel => exact ⟨_, (true), (by first | rfl | (simp; done) | (simp [*]; done)), H', ⟨by first | omega | exact Nat.le_refl _⟩, ⟨by repeat (first | (with_reducible first | exact HB.out | apply below_alloc | apply pw_below_drewN | apply below_drew1) | exact HB.out)⟩⟩
    · replace c8 := Bool.eq_false_iff.mpr c8
      subst c8
      have H1 : (mezzotintlaw01_FixBetween.j0 k (wrap64 (a0)) t122 t123 t124 t125 t126 true) = some r := by rw [if_neg (show ¬ (false = true) by decide)] at H; exact H
      clear H
      have H := H1
      clear H1
      have H' := Aside0.mk H
      clear H
      go_wp2_with (first | ((with_reducible refine gate_callee (f := 14) rfl ?_); refine goesL_ (some 26) rfl rfl Try.func14 (by kernel_rfl) rfl #[] rfl (by (try simp only [List.map_toArray, List.map_cons, List.map_nil]); first | done | rfl | (simp only [List.length_drop, List.length_take]; rfl)) ?_; (with_reducible refine (mezzotintlaw01_answers.calls k  false _ A7.out).mono ?_); rintro e w26 ⟨rfl, hb⟩; refine ⟨_, rfl, ?_⟩; have n0_ := Aside0.mk (below_step (by repeat (first | (with_reducible first | exact HB.out | apply below_alloc | apply pw_below_drewN | apply below_drew1) | exact HB.out)) hb); clear HB; have HB := n0_; clear n0_; (try clear hb); (try clear hb2); (try clear hk); (try clear hi)))
      go_meet
      case rel => exact ⟨_, (true), (by first | rfl | (simp; done) | (simp [*]; done)), H', ⟨by first | omega | exact Nat.le_refl _⟩, ⟨by repeat (first | (with_reducible first | exact HB.out | apply below_alloc | apply pw_below_drewN | apply below_drew1) | exact HB.out)⟩⟩
  case rest =>
    clear HC6
    try clear c1
    try clear c2
    try clear p2
    try clear p6
    try clear c8
    try clear c9
    try clear c9b0
    try clear c11
    try clear c11b0
    try clear c13
    try clear c13b0
    try clear c13b1
    try clear c14
    try clear c14b0
    try clear c14b1
    try clear c15
    try clear c15b0
    try clear c16
    try clear c16b0
    try clear c18
    try clear c18b0
    try clear c21
    try clear c21b0
    try clear c25
    try clear c26
    obtain ⟨kq, x66_5, rfl, HA, HJ5, HB⟩ := hcut
    cases kq with
    | zero => exact absurd HA.out (by simp [mezzotintlaw01_FixBetween.j0])
    | succ kj5 =>
      have H := HA.out
      clear HA
      simp only [mezzotintlaw01_FixBetween.j0] at H
      by_cases c27 : x66_5 = true
      · subst c27
        have H1 : (some false) = some r := by rw [if_pos rfl] at H; exact H
        clear H
        have H := H1
        clear H1
        obtain rfl := Option.some.inj H
        go_wp2
        go_ret
        exact ⟨by first | rfl | (simp [errW_none, errW_some] <;> rfl) | (simp [*, errW_none, errW_some] <;> rfl), by repeat (first | (with_reducible first | exact HB.out | apply below_alloc | apply pw_below_drewN | apply below_drew1) | exact HB.out)⟩
      · replace c27 := Bool.eq_false_iff.mpr c27
        subst c27
        have H1 : (if t124 = 0 then (if t123 < (wrap64 (a0)) then (some false) else (if (wrap64 (t123 - t122)) > 65536 then (some false) else (if (Int.tmod t123 65536) = 0 then (if t126 = 0 then (if t125 = t122 then (if (wrap64 ((wrap64 (a0)) - t122)) < 32768 then (some true) else (if t125 = (wrap64 (t122 + 65536)) then (some (decide ((wrap64 ((wrap64 (a0)) - t122)) ≥ 32768))) else (some false))) else (if t125 = (wrap64 (t122 + 65536)) then (some (decide ((wrap64 ((wrap64 (a0)) - t122)) ≥ 32768))) else (some false))) else (some true)) else (some false)))) else (if t126 = 0 then (if t125 = t122 then (if (wrap64 ((wrap64 (a0)) - t122)) < 32768 then (some true) else (if t125 = (wrap64 (t122 + 65536)) then (some (decide ((wrap64 ((wrap64 (a0)) - t122)) ≥ 32768))) else (some false))) else (if t125 = (wrap64 (t122 + 65536)) then (some (decide ((wrap64 ((wrap64 (a0)) - t122)) ≥ 32768))) else (some false))) else (some true))) = some r := by rw [if_neg (show ¬ (false = true) by decide)] at H; exact H
        clear H
        have H := H1
        clear H1
        by_cases c28 : t124 = 0
        · rw [if_pos c28] at H
          have c28b0 : (t124 == 0) = true := beq_iff_eq.mpr c28
          have c28b1 : (t124 != 0) = false := bne_eq_false_iff_eq.mpr c28
          clear c28
          by_cases c29 : t123 < (wrap64 (a0))
          · rw [if_pos c29] at H
            have c29b0 : decide (t123 < (wrap64 (a0))) = true := decide_eq_true c29
            clear c29
            obtain rfl := Option.some.inj H
            go_wp2
            go_ret
            exact ⟨by first | rfl | (simp [errW_none, errW_some] <;> rfl) | (simp [*, errW_none, errW_some] <;> rfl), by repeat (first | (with_reducible first | exact HB.out | apply below_alloc | apply pw_below_drewN | apply below_drew1) | exact HB.out)⟩
          · rw [if_neg c29] at H
            have c29b0 : decide (t123 < (wrap64 (a0))) = false := decide_eq_false c29
            clear c29
            by_cases c30 : (wrap64 (t123 - t122)) > 65536
            · rw [if_pos c30] at H
              have c30b0 : decide (65536 < (wrap64 (t123 - t122))) = true := decide_eq_true c30
              clear c30
              obtain rfl := Option.some.inj H
              go_wp2
              go_ret
              exact ⟨by first | rfl | (simp [errW_none, errW_some] <;> rfl) | (simp [*, errW_none, errW_some] <;> rfl), by repeat (first | (with_reducible first | exact HB.out | apply below_alloc | apply pw_below_drewN | apply below_drew1) | exact HB.out)⟩
            · rw [if_neg c30] at H
              have c30b0 : decide (65536 < (wrap64 (t123 - t122))) = false := decide_eq_false c30
              clear c30
              by_cases c31 : (Int.tmod t123 65536) = 0
              · rw [if_pos c31] at H
                have c31b0 : ((Int.tmod t123 65536) == 0) = true := beq_iff_eq.mpr c31
                have c31b1 : ((Int.tmod t123 65536) != 0) = false := bne_eq_false_iff_eq.mpr c31
                clear c31
                by_cases c32 : t126 = 0
                · rw [if_pos c32] at H
                  have c32b0 : (t126 == 0) = true := beq_iff_eq.mpr c32
                  have c32b1 : (t126 != 0) = false := bne_eq_false_iff_eq.mpr c32
                  clear c32
                  by_cases c33 : t125 = t122
                  · rw [if_pos c33] at H
                    have c33b0 : (t125 == t122) = true := beq_iff_eq.mpr c33
                    have c33b1 : (t125 != t122) = false := bne_eq_false_iff_eq.mpr c33
                    clear c33
                    by_cases c34 : (wrap64 ((wrap64 (a0)) - t122)) < 32768
                    · rw [if_pos c34] at H
                      have c34b0 : decide ((wrap64 ((wrap64 (a0)) - t122)) < 32768) = true := decide_eq_true c34
                      clear c34
                      obtain rfl := Option.some.inj H
                      go_wp2
                      go_ret
                      exact ⟨by first | rfl | (simp [errW_none, errW_some] <;> rfl) | (simp [*, errW_none, errW_some] <;> rfl), by repeat (first | (with_reducible first | exact HB.out | apply below_alloc | apply pw_below_drewN | apply below_drew1) | exact HB.out)⟩
                    · rw [if_neg c34] at H
                      have c34b0 : decide ((wrap64 ((wrap64 (a0)) - t122)) < 32768) = false := decide_eq_false c34
                      clear c34
                      by_cases c35 : t125 = (wrap64 (t122 + 65536))
                      · rw [if_pos c35] at H
                        have c35b0 : (t125 == (wrap64 (t122 + 65536))) = true := beq_iff_eq.mpr c35
                        have c35b1 : (t125 != (wrap64 (t122 + 65536))) = false := bne_eq_false_iff_eq.mpr c35
                        clear c35
                        obtain rfl := Option.some.inj H
                        go_wp2
                        go_ret
                        exact ⟨by first | rfl | (simp [errW_none, errW_some] <;> rfl) | (simp [*, errW_none, errW_some] <;> rfl), by repeat (first | (with_reducible first | exact HB.out | apply below_alloc | apply pw_below_drewN | apply below_drew1) | exact HB.out)⟩
                      · rw [if_neg c35] at H
                        have c35b0 : (t125 == (wrap64 (t122 + 65536))) = false := beq_eq_false_iff_ne.mpr c35
                        have c35b1 : (t125 != (wrap64 (t122 + 65536))) = true := bne_iff_ne.mpr c35
                        obtain rfl := Option.some.inj H
                        go_wp2
                        go_ret
                        exact ⟨by first | rfl | (simp [errW_none, errW_some] <;> rfl) | (simp [*, errW_none, errW_some] <;> rfl), by repeat (first | (with_reducible first | exact HB.out | apply below_alloc | apply pw_below_drewN | apply below_drew1) | exact HB.out)⟩
                  · rw [if_neg c33] at H
                    have c33b0 : (t125 == t122) = false := beq_eq_false_iff_ne.mpr c33
                    have c33b1 : (t125 != t122) = true := bne_iff_ne.mpr c33
                    by_cases c36 : t125 = (wrap64 (t122 + 65536))
                    · rw [if_pos c36] at H
                      have c36b0 : (t125 == (wrap64 (t122 + 65536))) = true := beq_iff_eq.mpr c36
                      have c36b1 : (t125 != (wrap64 (t122 + 65536))) = false := bne_eq_false_iff_eq.mpr c36
                      clear c36
                      obtain rfl := Option.some.inj H
                      go_wp2
                      go_ret
                      exact ⟨by first | rfl | (simp [errW_none, errW_some] <;> rfl) | (simp [*, errW_none, errW_some] <;> rfl), by repeat (first | (with_reducible first | exact HB.out | apply below_alloc | apply pw_below_drewN | apply below_drew1) | exact HB.out)⟩
                    · rw [if_neg c36] at H
                      have c36b0 : (t125 == (wrap64 (t122 + 65536))) = false := beq_eq_false_iff_ne.mpr c36
                      have c36b1 : (t125 != (wrap64 (t122 + 65536))) = true := bne_iff_ne.mpr c36
                      obtain rfl := Option.some.inj H
                      go_wp2
                      go_ret
                      exact ⟨by first | rfl | (simp [errW_none, errW_some] <;> rfl) | (simp [*, errW_none, errW_some] <;> rfl), by repeat (first | (with_reducible first | exact HB.out | apply below_alloc | apply pw_below_drewN | apply below_drew1) | exact HB.out)⟩
                · rw [if_neg c32] at H
                  have c32b0 : (t126 == 0) = false := beq_eq_false_iff_ne.mpr c32
                  have c32b1 : (t126 != 0) = true := bne_iff_ne.mpr c32
                  obtain rfl := Option.some.inj H
                  go_wp2
                  go_ret
                  exact ⟨by first | rfl | (simp [errW_none, errW_some] <;> rfl) | (simp [*, errW_none, errW_some] <;> rfl), by repeat (first | (with_reducible first | exact HB.out | apply below_alloc | apply pw_below_drewN | apply below_drew1) | exact HB.out)⟩
              · rw [if_neg c31] at H
                have c31b0 : ((Int.tmod t123 65536) == 0) = false := beq_eq_false_iff_ne.mpr c31
                have c31b1 : ((Int.tmod t123 65536) != 0) = true := bne_iff_ne.mpr c31
                obtain rfl := Option.some.inj H
                go_wp2
                go_ret
                exact ⟨by first | rfl | (simp [errW_none, errW_some] <;> rfl) | (simp [*, errW_none, errW_some] <;> rfl), by repeat (first | (with_reducible first | exact HB.out | apply below_alloc | apply pw_below_drewN | apply below_drew1) | exact HB.out)⟩
        · rw [if_neg c28] at H
          have c28b0 : (t124 == 0) = false := beq_eq_false_iff_ne.mpr c28
          have c28b1 : (t124 != 0) = true := bne_iff_ne.mpr c28
          by_cases c37 : t126 = 0
          · rw [if_pos c37] at H
            have c37b0 : (t126 == 0) = true := beq_iff_eq.mpr c37
            have c37b1 : (t126 != 0) = false := bne_eq_false_iff_eq.mpr c37
            clear c37
            by_cases c38 : t125 = t122
            · rw [if_pos c38] at H
              have c38b0 : (t125 == t122) = true := beq_iff_eq.mpr c38
              have c38b1 : (t125 != t122) = false := bne_eq_false_iff_eq.mpr c38
              clear c38
              by_cases c39 : (wrap64 ((wrap64 (a0)) - t122)) < 32768
              · rw [if_pos c39] at H
                have c39b0 : decide ((wrap64 ((wrap64 (a0)) - t122)) < 32768) = true := decide_eq_true c39
                clear c39
                obtain rfl := Option.some.inj H
                go_wp2
                go_ret
                exact ⟨by first | rfl | (simp [errW_none, errW_some] <;> rfl) | (simp [*, errW_none, errW_some] <;> rfl), by repeat (first | (with_reducible first | exact HB.out | apply below_alloc | apply pw_below_drewN | apply below_drew1) | exact HB.out)⟩
              · rw [if_neg c39] at H
                have c39b0 : decide ((wrap64 ((wrap64 (a0)) - t122)) < 32768) = false := decide_eq_false c39
                clear c39
                by_cases c40 : t125 = (wrap64 (t122 + 65536))
                · rw [if_pos c40] at H
                  have c40b0 : (t125 == (wrap64 (t122 + 65536))) = true := beq_iff_eq.mpr c40
                  have c40b1 : (t125 != (wrap64 (t122 + 65536))) = false := bne_eq_false_iff_eq.mpr c40
                  clear c40
                  obtain rfl := Option.some.inj H
                  go_wp2
                  go_ret
                  exact ⟨by first | rfl | (simp [errW_none, errW_some] <;> rfl) | (simp [*, errW_none, errW_some] <;> rfl), by repeat (first | (with_reducible first | exact HB.out | apply below_alloc | apply pw_below_drewN | apply below_drew1) | exact HB.out)⟩
                · rw [if_neg c40] at H
                  have c40b0 : (t125 == (wrap64 (t122 + 65536))) = false := beq_eq_false_iff_ne.mpr c40
                  have c40b1 : (t125 != (wrap64 (t122 + 65536))) = true := bne_iff_ne.mpr c40
                  obtain rfl := Option.some.inj H
                  go_wp2
                  go_ret
                  exact ⟨by first | rfl | (simp [errW_none, errW_some] <;> rfl) | (simp [*, errW_none, errW_some] <;> rfl), by repeat (first | (with_reducible first | exact HB.out | apply below_alloc | apply pw_below_drewN | apply below_drew1) | exact HB.out)⟩
            · rw [if_neg c38] at H
              have c38b0 : (t125 == t122) = false := beq_eq_false_iff_ne.mpr c38
              have c38b1 : (t125 != t122) = true := bne_iff_ne.mpr c38
              by_cases c41 : t125 = (wrap64 (t122 + 65536))
              · rw [if_pos c41] at H
                have c41b0 : (t125 == (wrap64 (t122 + 65536))) = true := beq_iff_eq.mpr c41
                have c41b1 : (t125 != (wrap64 (t122 + 65536))) = false := bne_eq_false_iff_eq.mpr c41
                clear c41
                obtain rfl := Option.some.inj H
                go_wp2
                go_ret
                exact ⟨by first | rfl | (simp [errW_none, errW_some] <;> rfl) | (simp [*, errW_none, errW_some] <;> rfl), by repeat (first | (with_reducible first | exact HB.out | apply below_alloc | apply pw_below_drewN | apply below_drew1) | exact HB.out)⟩
              · rw [if_neg c41] at H
                have c41b0 : (t125 == (wrap64 (t122 + 65536))) = false := beq_eq_false_iff_ne.mpr c41
                have c41b1 : (t125 != (wrap64 (t122 + 65536))) = true := bne_iff_ne.mpr c41
                obtain rfl := Option.some.inj H
                go_wp2
                go_ret
                exact ⟨by first | rfl | (simp [errW_none, errW_some] <;> rfl) | (simp [*, errW_none, errW_some] <;> rfl), by repeat (first | (with_reducible first | exact HB.out | apply below_alloc | apply pw_below_drewN | apply below_drew1) | exact HB.out)⟩
          · rw [if_neg c37] at H
            have c37b0 : (t126 == 0) = false := beq_eq_false_iff_ne.mpr c37
            have c37b1 : (t126 != 0) = true := bne_iff_ne.mpr c37
            obtain rfl := Option.some.inj H
            go_wp2
            go_ret
            exact ⟨by first | rfl | (simp [errW_none, errW_some] <;> rfl) | (simp [*, errW_none, errW_some] <;> rfl), by repeat (first | (with_reducible first | exact HB.out | apply below_alloc | apply pw_below_drewN | apply below_drew1) | exact HB.out)⟩

/-- THE ONE PURE STATEMENT of mezzotintlaw01_FixBetween: yours. -/
def mezzotintlaw01_FixBetween.Pure : Prop := ∀ (a0 : Int), (Lit.int .i32 a0).wf = true → ∃ k, mezzotintlaw01_FixBetween.f k a0 = some true
theorem mezzotintlaw01_FixBetween.walk (P : mezzotintlaw01_FixBetween.Pure) (a0 : Int) (w : World) (w0 : (Lit.int .i32 a0).wf = true) :
    Calls Try.prog 8 #[.int .i32 a0] w fun e w' => e = .returned (.bool true) ∧ Below w.heap.size w w' := by
  obtain ⟨k, h⟩ := P a0 w0
  refine (mezzotintlaw01_FixBetween.calls k a0 true w h).mono ?_
  rintro e w' ⟨rfl, hd⟩
  exact ⟨rfl, hd⟩

end Go.Proofs.Ytonchamkagadbaa.PFixBetween
