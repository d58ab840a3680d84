-- PRINTED BY print.sh 35421559b90ae4d0a3588c463048766b98c2df88dd9212a6774a882060cdf62d: not written by this session
import Derived.Test.YtonchamkagadbaaPFixNearx0
import Derived.Test.YtonchamkagadbaaPFixNearx1
namespace Go.Proofs.Ytonchamkagadbaa.PFixNear
open Go.RowKit Go.Proofs.YtonchamkagadbaaW.PrintWords Go.Proofs.YtonchamkagadbaaW.PrintLast Go.Proofs.YtonchamkagadbaaW.PrintMore
attribute [local go_sem] max2_int min2_int max_two min_two max_three min_three max_four min_four   -- for this text's walks alone
set_option linter.unusedVariables false
set_option linter.unusedSimpArgs false

/-! ### mezzotintlaw01_FixNear: function 4 -/
mutual
def mezzotintlaw01_FixNear.j0 : Nat → Int → Int → Bool → Option (Bool)
  | 0, _, _, _ => none
  | k + 1, x0, x1, x22 => if x22 = true then ((mezzotintlaw01_answers.f k).bind fun t123 => (some t123)) else ((fix_Mul.f k x0 x1).bind fun bt124 => (if bt124.2 = 0 then (if (wrap64 (2 * (wrap64 ((wrap64 (x0 * x1)) - (wrap64 (bt124.1 * 65536)))))) > 65536 then (some false) else (if (wrap64 (2 * (wrap64 ((wrap64 (x0 * x1)) - (wrap64 (bt124.1 * 65536)))))) < (-65536) then (some false) else (if (wrap64 (2 * (wrap64 ((wrap64 (x0 * x1)) - (wrap64 (bt124.1 * 65536)))))) = 65536 then (if (wrap64 (x0 * x1)) > 0 then (some false) else (if (wrap64 (2 * (wrap64 ((wrap64 (x0 * x1)) - (wrap64 (bt124.1 * 65536)))))) = (-65536) then (if (wrap64 (x0 * x1)) < 0 then (some false) else (mezzotintlaw01_FixNear.j1 k x0 x1)) else (mezzotintlaw01_FixNear.j1 k x0 x1))) else (if (wrap64 (2 * (wrap64 ((wrap64 (x0 * x1)) - (wrap64 (bt124.1 * 65536)))))) = (-65536) then (if (wrap64 (x0 * x1)) < 0 then (some false) else (mezzotintlaw01_FixNear.j1 k x0 x1)) else (mezzotintlaw01_FixNear.j1 k x0 x1))))) else (mezzotintlaw01_FixNear.j1 k x0 x1)))
def mezzotintlaw01_FixNear.j1 : Nat → Int → Int → Option (Bool)
  | 0, _, _ => none
  | k + 1, x0, x1 => (fix_Div.f k x0 x1).bind fun bt126 => (if bt126.2 = 0 then (if (wrap64 (2 * (wrap64 ((wrap64 (x0 * 65536)) - (wrap64 (bt126.1 * x1)))))) < 0 then (if x1 < 0 then (some (decide ((wrap64 (-(wrap64 (2 * (wrap64 ((wrap64 (x0 * 65536)) - (wrap64 (bt126.1 * x1)))))))) ≤ (wrap64 (-x1))))) else (some (decide ((wrap64 (-(wrap64 (2 * (wrap64 ((wrap64 (x0 * 65536)) - (wrap64 (bt126.1 * x1)))))))) ≤ x1)))) else (if x1 < 0 then (some (decide ((wrap64 (2 * (wrap64 ((wrap64 (x0 * 65536)) - (wrap64 (bt126.1 * x1)))))) ≤ (wrap64 (-x1))))) else (some (decide ((wrap64 (2 * (wrap64 ((wrap64 (x0 * 65536)) - (wrap64 (bt126.1 * x1)))))) ≤ x1))))) else (some true))
end
def mezzotintlaw01_FixNear.f (k : Nat) (a0 : Int) (a1 : Int) : Option (Bool) := (mezzotintlaw01_answers.f k).bind fun t120 => (if t120 = true then ((mezzotintref01_Fits.f a0).bind fun t121 => (if t121 = true then ((mezzotintref01_Fits.f a1).bind fun t122 => (mezzotintlaw01_FixNear.j0 k a0 a1 (!t122))) else (mezzotintlaw01_FixNear.j0 k a0 a1 true))) else (mezzotintlaw01_FixNear.j0 k a0 a1 true))
theorem mezzotintlaw01_FixNear.mono_l : ∀ k, (∀ y0 y1 y2, LeO (mezzotintlaw01_FixNear.j0 k y0 y1 y2) (mezzotintlaw01_FixNear.j0 (k + 1) y0 y1 y2)) ∧ (∀ y0 y1, LeO (mezzotintlaw01_FixNear.j1 k y0 y1) (mezzotintlaw01_FixNear.j1 (k + 1) y0 y1))
  | 0 => ⟨fun _ _ _ r h => by simp [mezzotintlaw01_FixNear.j0] at h, fun _ _ r h => by simp [mezzotintlaw01_FixNear.j1] at h⟩
  | k + 1 => by
    obtain ⟨ih0, ih1⟩ := mezzotintlaw01_FixNear.mono_l k
    refine ⟨?_, ?_⟩
    · intro y0 y1 y2
      unfold mezzotintlaw01_FixNear.j0
      repeat' first
      | (with_reducible exact ih0 _ _ _)
      | (with_reducible exact ih1 _ _)
      | (with_reducible exact fix_Div.mono _ _ _)
      | (with_reducible exact fix_Mul.mono _ _ _)
      | (with_reducible exact mezzotintlaw01_answers.mono _)
      | (with_reducible exact LeO.refl _)
      | (with_reducible exact LeO.none _)
      | (with_reducible refine LeO.ite ?_ ?_)
      | (with_reducible refine LeO.bind ?_ (fun _ => ?_))
      | exact ih0 _ _ _
      | exact ih1 _ _
      | exact fix_Div.mono _ _ _
      | exact fix_Mul.mono _ _ _
      | exact mezzotintlaw01_answers.mono _
      | exact LeO.none _
      | refine LeO.ite ?_ ?_
      | refine LeO.bind ?_ (fun _ => ?_)
    · intro y0 y1
      unfold mezzotintlaw01_FixNear.j1
      repeat' first
      | (with_reducible exact ih0 _ _ _)
      | (with_reducible exact ih1 _ _)
      | (with_reducible exact fix_Div.mono _ _ _)
      | (with_reducible exact fix_Mul.mono _ _ _)
      | (with_reducible exact mezzotintlaw01_answers.mono _)
      | (with_reducible exact LeO.refl _)
      | (with_reducible exact LeO.none _)
      | (with_reducible refine LeO.ite ?_ ?_)
      | (with_reducible refine LeO.bind ?_ (fun _ => ?_))
      | exact ih0 _ _ _
      | exact ih1 _ _
      | exact fix_Div.mono _ _ _
      | exact fix_Mul.mono _ _ _
      | exact mezzotintlaw01_answers.mono _
      | exact LeO.none _
      | refine LeO.ite ?_ ?_
      | refine LeO.bind ?_ (fun _ => ?_)
theorem mezzotintlaw01_FixNear.mono : ∀ a0 a1 k, LeO (mezzotintlaw01_FixNear.f k a0 a1) (mezzotintlaw01_FixNear.f (k + 1) a0 a1) := by
  intro a0 a1 k
  obtain ⟨ih0, ih1⟩ := mezzotintlaw01_FixNear.mono_l k
  unfold mezzotintlaw01_FixNear.f
  repeat' first
      | (with_reducible exact ih0 _ _ _)
      | (with_reducible exact ih1 _ _)
      | (with_reducible exact fix_Div.mono _ _ _)
      | (with_reducible exact fix_Mul.mono _ _ _)
      | (with_reducible exact mezzotintlaw01_answers.mono _)
      | (with_reducible exact LeO.refl _)
      | (with_reducible exact LeO.none _)
      | (with_reducible refine LeO.ite ?_ ?_)
      | (with_reducible refine LeO.bind ?_ (fun _ => ?_))
      | exact ih0 _ _ _
      | exact ih1 _ _
      | exact fix_Div.mono _ _ _
      | exact fix_Mul.mono _ _ _
      | exact mezzotintlaw01_answers.mono _
      | exact LeO.none _
      | refine LeO.ite ?_ ?_
      | refine LeO.bind ?_ (fun _ => ?_)
set_option maxHeartbeats 8000000 in
set_option maxRecDepth 100000 in
theorem mezzotintlaw01_FixNear.calls (k : Nat) (a0 : Int) (a1 : Int) (r : Bool) (w : World) (h : mezzotintlaw01_FixNear.f k a0 a1 = some r) :
    Calls Try.prog 4 #[.int .i64 a0, .int .i64 a1] w fun e w' => e = .returned (.bool r) ∧ Below w.heap.size w w' := by
  have HB := Aside0.mk (Below.refl w.heap.size w)
  have H : ((mezzotintlaw01_answers.f k).bind fun t120 => (if t120 = true then ((mezzotintref01_Fits.f a0).bind fun t121 => (if t121 = true then ((mezzotintref01_Fits.f a1).bind fun t122 => (mezzotintlaw01_FixNear.j0 k a0 a1 (!t122))) else (mezzotintlaw01_FixNear.j0 k a0 a1 true))) else (mezzotintlaw01_FixNear.j0 k a0 a1 true))) = some r := h
  clear h
  have HC3 := Aside0.mk H
  clear H
  go_enter Try.func4, Try.ntmps4
  go_upto_region 1 with (fail)
  go_cut [22] (fun v22 wc => ∃ (kq : Nat) (x22_2 : Bool), v22 = .bool x22_2 ∧ Aside0 (mezzotintlaw01_FixNear.j0 kq a0 a1 x22_2 = some r) ∧ Aside0 (kq ≤ k) ∧ Aside0 (Below w.heap.size w wc))
  case first =>
    have H := HC3.out
    clear HC3
    replace H := Option.bind_eq_some_iff.mp H
    obtain ⟨t120, A40, H⟩ := H
    replace H : (if t120 = true then ((mezzotintref01_Fits.f a0).bind fun t121 => (if t121 = true then ((mezzotintref01_Fits.f a1).bind fun t122 => (mezzotintlaw01_FixNear.j0 k a0 a1 (!t122))) else (mezzotintlaw01_FixNear.j0 k a0 a1 true))) else (mezzotintlaw01_FixNear.j0 k a0 a1 true)) = some r := H
    have A4 := Aside0.mk A40
    clear A40
    by_cases c5 : t120 = true
    · subst c5
      have H1 : ((mezzotintref01_Fits.f a0).bind fun t121 => (if t121 = true then ((mezzotintref01_Fits.f a1).bind fun t122 => (mezzotintlaw01_FixNear.j0 k a0 a1 (!t122))) else (mezzotintlaw01_FixNear.j0 k a0 a1 true))) = some r := by rw [if_pos rfl] at H; exact H
      clear H
      have H := H1
      clear H1
      replace H := Option.bind_eq_some_iff.mp H
      obtain ⟨t121, A60, H⟩ := H
      replace H : (if t121 = true then ((mezzotintref01_Fits.f a1).bind fun t122 => (mezzotintlaw01_FixNear.j0 k a0 a1 (!t122))) else (mezzotintlaw01_FixNear.j0 k a0 a1 true)) = some r := H
      have A6 := Aside0.mk A60
      clear A60
      by_cases c7 : t121 = true
      · subst c7
        have H1 : ((mezzotintref01_Fits.f a1).bind fun t122 => (mezzotintlaw01_FixNear.j0 k a0 a1 (!t122))) = some r := by rw [if_pos rfl] at H; exact H
        clear H
        have H := H1
        clear H1
        replace H := Option.bind_eq_some_iff.mp H
        obtain ⟨t122, A80, H⟩ := H
        replace H : (mezzotintlaw01_FixNear.j0 k a0 a1 (!t122)) = some r := H
        have A8 := Aside0.mk A80
        clear A80
        have H' := Aside0.mk H
        clear H
        go_wp2_with (first | ((with_reducible refine gate_callee (f := 14) rfl ?_); refine goesL_ (some 11) rfl rfl Try.func14 (by kernel_rfl) rfl #[] rfl (by (try simp only [List.map_toArray, List.map_cons, List.map_nil]); first | done | rfl | (simp only [List.length_drop, List.length_take]; rfl)) ?_; (with_reducible refine (mezzotintlaw01_answers.calls k  true _ A4.out).mono ?_); rintro e w9 ⟨rfl, hb⟩; refine ⟨_, rfl, ?_⟩; have n0_ := Aside0.mk (below_step (by repeat (first | (with_reducible first | exact HB.out | apply below_alloc | apply pw_below_drewN | apply below_drew1) | exact HB.out)) hb); clear HB; have HB := n0_; clear n0_; (try clear hb); (try clear hb2); (try clear hk); (try clear hi)) | (go_at_call 16; (with_reducible refine (mezzotintref01_Fits.calls a0 true _ A6.out).mono ?_); rintro e w' ⟨rfl, ⟨nd, rfl⟩⟩) | (go_at_call 16; (with_reducible refine (mezzotintref01_Fits.calls a1 t122 _ A8.out).mono ?_); rintro e w' ⟨rfl, ⟨nd, rfl⟩⟩))
        go_meet
        case rel => exact ⟨_, (!t122), (by first | rfl | (simp; done) | (simp [*]; done)), H', ⟨by first | omega | exact Nat.le_refl _⟩, ⟨by repeat (first | (with_reducible first | exact HB.out | apply below_alloc | apply pw_below_drewN | apply below_drew1) | exact HB.out)⟩⟩
      · replace c7 := Bool.eq_false_iff.mpr c7
        subst c7
        have H1 : (mezzotintlaw01_FixNear.j0 k a0 a1 true) = some r := by rw [if_neg (show ¬ (false = true) by decide)] at H; exact H
        clear H
        have H := H1
        clear H1
        have H' := Aside0.mk H
        clear H
        go_wp2_with (first | ((with_reducible refine gate_callee (f := 14) rfl ?_); refine goesL_ (some 11) rfl rfl Try.func14 (by kernel_rfl) rfl #[] rfl (by (try simp only [List.map_toArray, List.map_cons, List.map_nil]); first | done | rfl | (simp only [List.length_drop, List.length_take]; rfl)) ?_; (with_reducible refine (mezzotintlaw01_answers.calls k  true _ A4.out).mono ?_); rintro e w10 ⟨rfl, hb⟩; refine ⟨_, rfl, ?_⟩; have n0_ := Aside0.mk (below_step (by repeat (first | (with_reducible first | exact HB.out | apply below_alloc | apply pw_below_drewN | apply below_drew1) | exact HB.out)) hb); clear HB; have HB := n0_; clear n0_; (try clear hb); (try clear hb2); (try clear hk); (try clear hi)) | (go_at_call 16; (with_reducible refine (mezzotintref01_Fits.calls a0 false _ A6.out).mono ?_); rintro e w' ⟨rfl, ⟨nd, rfl⟩⟩))
        go_meet
        case rel => exact ⟨_, (true), (by first | rfl | (simp; done) | (simp [*]; done)), H', ⟨by first | omega | exact Nat.le_refl _⟩, ⟨by repeat (first | (with_reducible first | exact HB.out | apply below_alloc | apply pw_below_drewN | apply below_drew1) | exact HB.out)⟩⟩
    · replace c5 := Bool.eq_false_iff.mpr c5
      subst c5
      have H1 : (mezzotintlaw01_FixNear.j0 k a0 a1 true) = some r := by rw [if_neg (show ¬ (false = true) by decide)] at H; exact H
      clear H
      have H := H1
      clear H1
      have H' := Aside0.mk H
      clear H
      go_wp2_with (first | ((with_reducible refine gate_callee (f := 14) rfl ?_); refine goesL_ (some 11) rfl rfl Try.func14 (by kernel_rfl) rfl #[] rfl (by (try simp only [List.map_toArray, List.map_cons, List.map_nil]); first | done | rfl | (simp only [List.length_drop, List.length_take]; rfl)) ?_; (with_reducible refine (mezzotintlaw01_answers.calls k  false _ A4.out).mono ?_); rintro e w11 ⟨rfl, hb⟩; refine ⟨_, rfl, ?_⟩; have n0_ := Aside0.mk (below_step (by repeat (first | (with_reducible first | exact HB.out | apply below_alloc | apply pw_below_drewN | apply below_drew1) | exact HB.out)) hb); clear HB; have HB := n0_; clear n0_; (try clear hb); (try clear hb2); (try clear hk); (try clear hi)))
      go_meet
      case rel => exact ⟨_, (true), (by first | rfl | (simp; done) | (simp [*]; done)), H', ⟨by first | omega | exact Nat.le_refl _⟩, ⟨by repeat (first | (with_reducible first | exact HB.out | apply below_alloc | apply pw_below_drewN | apply below_drew1) | exact HB.out)⟩⟩
  case rest =>
    clear HC3
    try clear c1
    try clear p2
    try clear c4
    try clear c5
    try clear c7
    obtain ⟨kq, x22_2, rfl, HA, HJ2, HB⟩ := hcut
    cases kq with
    | zero => exact absurd HA.out (by simp [mezzotintlaw01_FixNear.j0])
    | succ kj2 =>
      have H := HA.out
      clear HA
      simp only [mezzotintlaw01_FixNear.j0] at H
      by_cases c12 : x22_2 = true
      · subst c12
        have H1 : ((mezzotintlaw01_answers.f kj2).bind fun t123 => (some t123)) = some r := by rw [if_pos rfl] at H; exact H
        clear H
        have H := H1
        clear H1
        replace H := Option.bind_eq_some_iff.mp H
        obtain ⟨t123, A130, H⟩ := H
        replace H : (some t123) = some r := H
        have A13 := Aside0.mk A130
        clear A130
        obtain rfl := Option.some.inj H
        go_wp2_with (first | ((with_reducible refine gate_callee (f := 14) rfl ?_); refine goesL_ (some 23) rfl rfl Try.func14 (by kernel_rfl) rfl #[] rfl (by (try simp only [List.map_toArray, List.map_cons, List.map_nil]); first | done | rfl | (simp only [List.length_drop, List.length_take]; rfl)) ?_; (with_reducible refine (mezzotintlaw01_answers.calls kj2  t123 _ A13.out).mono ?_); rintro e w14 ⟨rfl, hb⟩; refine ⟨_, rfl, ?_⟩; have n0_ := Aside0.mk (below_step (by repeat (first | (with_reducible first | exact HB.out | apply below_alloc | apply pw_below_drewN | apply below_drew1) | exact HB.out)) hb); clear HB; have HB := n0_; clear n0_; (try clear hb); (try clear hb2); (try clear hk); (try clear hi)))
        go_ret
        exact ⟨by first | rfl | (simp [errW_none, errW_some] <;> rfl) | (simp [*, errW_none, errW_some] <;> rfl), by repeat (first | (with_reducible first | exact HB.out | apply below_alloc | apply pw_below_drewN | apply below_drew1) | exact HB.out)⟩
      · replace c12 := Bool.eq_false_iff.mpr c12
        subst c12
        have H1 : ((fix_Mul.f kj2 a0 a1).bind fun bt124 => (if bt124.2 = 0 then (if (wrap64 (2 * (wrap64 ((wrap64 (a0 * a1)) - (wrap64 (bt124.1 * 65536)))))) > 65536 then (some false) else (if (wrap64 (2 * (wrap64 ((wrap64 (a0 * a1)) - (wrap64 (bt124.1 * 65536)))))) < (-65536) then (some false) else (if (wrap64 (2 * (wrap64 ((wrap64 (a0 * a1)) - (wrap64 (bt124.1 * 65536)))))) = 65536 then (if (wrap64 (a0 * a1)) > 0 then (some false) else (if (wrap64 (2 * (wrap64 ((wrap64 (a0 * a1)) - (wrap64 (bt124.1 * 65536)))))) = (-65536) then (if (wrap64 (a0 * a1)) < 0 then (some false) else (mezzotintlaw01_FixNear.j1 kj2 a0 a1)) else (mezzotintlaw01_FixNear.j1 kj2 a0 a1))) else (if (wrap64 (2 * (wrap64 ((wrap64 (a0 * a1)) - (wrap64 (bt124.1 * 65536)))))) = (-65536) then (if (wrap64 (a0 * a1)) < 0 then (some false) else (mezzotintlaw01_FixNear.j1 kj2 a0 a1)) else (mezzotintlaw01_FixNear.j1 kj2 a0 a1))))) else (mezzotintlaw01_FixNear.j1 kj2 a0 a1))) = some r := by rw [if_neg (show ¬ (false = true) by decide)] at H; exact H
        clear H
        have H := H1
        clear H1
        replace H := Option.bind_eq_some_iff.mp H
        obtain ⟨⟨t124, t125⟩, A150, H⟩ := H
        replace H : (if t125 = 0 then (if (wrap64 (2 * (wrap64 ((wrap64 (a0 * a1)) - (wrap64 (t124 * 65536)))))) > 65536 then (some false) else (if (wrap64 (2 * (wrap64 ((wrap64 (a0 * a1)) - (wrap64 (t124 * 65536)))))) < (-65536) then (some false) else (if (wrap64 (2 * (wrap64 ((wrap64 (a0 * a1)) - (wrap64 (t124 * 65536)))))) = 65536 then (if (wrap64 (a0 * a1)) > 0 then (some false) else (if (wrap64 (2 * (wrap64 ((wrap64 (a0 * a1)) - (wrap64 (t124 * 65536)))))) = (-65536) then (if (wrap64 (a0 * a1)) < 0 then (some false) else (mezzotintlaw01_FixNear.j1 kj2 a0 a1)) else (mezzotintlaw01_FixNear.j1 kj2 a0 a1))) else (if (wrap64 (2 * (wrap64 ((wrap64 (a0 * a1)) - (wrap64 (t124 * 65536)))))) = (-65536) then (if (wrap64 (a0 * a1)) < 0 then (some false) else (mezzotintlaw01_FixNear.j1 kj2 a0 a1)) else (mezzotintlaw01_FixNear.j1 kj2 a0 a1))))) else (mezzotintlaw01_FixNear.j1 kj2 a0 a1)) = some r := H
        have A15 := Aside0.mk A150
        clear A150
        have HC16 := Aside0.mk H
        clear H
        go_upto_if 31 with (first | ((with_reducible refine gate_callee (f := 10) rfl ?_); refine goesL_ (some 27) rfl rfl Try.func10 (by kernel_rfl) rfl #[.int .i64 a0, .int .i64 a1] rfl (by (try simp only [List.map_toArray, List.map_cons, List.map_nil]); first | done | rfl | (simp only [List.length_drop, List.length_take]; rfl)) ?_; (with_reducible refine (fix_Mul.calls kj2 a0 a1 t124 t125 _ A15.out).mono ?_); rintro e w17 ⟨rfl, hb⟩; refine ⟨_, rfl, ?_⟩; have n0_ := Aside0.mk (below_step (by repeat (first | (with_reducible first | exact HB.out | apply below_alloc | apply pw_below_drewN | apply below_drew1) | exact HB.out)) hb); clear HB; have HB := n0_; clear n0_; (try clear hb); (try clear hb2); (try clear hk); (try clear hi)))
        (try simp only [Act.put, List.setIfInBounds_toArray, List.set_cons_zero, List.set_cons_succ])
        go_cut [] (fun wc => ∃ (kq : Nat), Aside0 (mezzotintlaw01_FixNear.j1 kq a0 a1 = some r) ∧ Aside0 (kq ≤ kj2) ∧ Aside0 (Below w.heap.size w wc))
        case first =>
          have H := HC16.out
          clear HC16
          by_cases c18 : t125 = 0
          · rw [if_pos c18] at H
            have c18b0 : (t125 == 0) = true := beq_iff_eq.mpr c18
            have c18b1 : (t125 != 0) = false := bne_eq_false_iff_eq.mpr c18
            clear c18
            (first | rw [c18b0] | (simp only [i64_w, i32_w]; rw [c18b0]) | skip)
            by_cases c19 : (wrap64 (2 * (wrap64 ((wrap64 (a0 * a1)) - (wrap64 (t124 * 65536)))))) > 65536
            · rw [if_pos c19] at H
              have c19b0 : decide (65536 < (wrap64 (2 * (wrap64 ((wrap64 (a0 * a1)) - (wrap64 (t124 * 65536))))))) = true := decide_eq_true c19
              clear c19
              obtain rfl := Option.some.inj H
              go_wp2
              go_ret
              exact ⟨by first | rfl | (simp [errW_none, errW_some] <;> rfl) | (simp [*, errW_none, errW_some] <;> rfl), by repeat (first | (with_reducible first | exact HB.out | apply below_alloc | apply pw_below_drewN | apply below_drew1) | exact HB.out)⟩
            · rw [if_neg c19] at H
              have c19b0 : decide (65536 < (wrap64 (2 * (wrap64 ((wrap64 (a0 * a1)) - (wrap64 (t124 * 65536))))))) = false := decide_eq_false c19
              clear c19
              by_cases c20 : (wrap64 (2 * (wrap64 ((wrap64 (a0 * a1)) - (wrap64 (t124 * 65536)))))) < (-65536)
              · rw [if_pos c20] at H
                have c20b0 : decide ((wrap64 (2 * (wrap64 ((wrap64 (a0 * a1)) - (wrap64 (t124 * 65536)))))) < (-65536)) = true := decide_eq_true c20
                clear c20
                obtain rfl := Option.some.inj H
                go_wp2
                go_ret
                exact ⟨by first | rfl | (simp [errW_none, errW_some] <;> rfl) | (simp [*, errW_none, errW_some] <;> rfl), by repeat (first | (with_reducible first | exact HB.out | apply below_alloc | apply pw_below_drewN | apply below_drew1) | exact HB.out)⟩
              · rw [if_neg c20] at H
                have c20b0 : decide ((wrap64 (2 * (wrap64 ((wrap64 (a0 * a1)) - (wrap64 (t124 * 65536)))))) < (-65536)) = false := decide_eq_false c20
                clear c20
                by_cases c21 : (wrap64 (2 * (wrap64 ((wrap64 (a0 * a1)) - (wrap64 (t124 * 65536)))))) = 65536
                · rw [if_pos c21] at H
                  have c21b0 : ((wrap64 (2 * (wrap64 ((wrap64 (a0 * a1)) - (wrap64 (t124 * 65536)))))) == 65536) = true := beq_iff_eq.mpr c21
                  have c21b1 : ((wrap64 (2 * (wrap64 ((wrap64 (a0 * a1)) - (wrap64 (t124 * 65536)))))) != 65536) = false := bne_eq_false_iff_eq.mpr c21
                  clear c21
                  by_cases c22 : (wrap64 (a0 * a1)) > 0
                  · rw [if_pos c22] at H
                    have c22b0 : decide (0 < (wrap64 (a0 * a1))) = true := decide_eq_true c22
                    clear c22
                    obtain rfl := Option.some.inj H
                    go_wp2
                    go_ret
                    exact ⟨by first | rfl | (simp [errW_none, errW_some] <;> rfl) | (simp [*, errW_none, errW_some] <;> rfl), by repeat (first | (with_reducible first | exact HB.out | apply below_alloc | apply pw_below_drewN | apply below_drew1) | exact HB.out)⟩
                  · rw [if_neg c22] at H
                    have c22b0 : decide (0 < (wrap64 (a0 * a1))) = false := decide_eq_false c22
                    clear c22
                    by_cases c23 : (wrap64 (2 * (wrap64 ((wrap64 (a0 * a1)) - (wrap64 (t124 * 65536)))))) = (-65536)
                    · rw [if_pos c23] at H
                      have c23b0 : ((wrap64 (2 * (wrap64 ((wrap64 (a0 * a1)) - (wrap64 (t124 * 65536)))))) == (-65536)) = true := beq_iff_eq.mpr c23
                      have c23b1 : ((wrap64 (2 * (wrap64 ((wrap64 (a0 * a1)) - (wrap64 (t124 * 65536)))))) != (-65536)) = false := bne_eq_false_iff_eq.mpr c23
                      clear c23
                      by_cases c24 : (wrap64 (a0 * a1)) < 0
                      · rw [if_pos c24] at H
                        have c24b0 : decide ((wrap64 (a0 * a1)) < 0) = true := decide_eq_true c24
                        clear c24
                        obtain rfl := Option.some.inj H
                        go_wp2
                        go_ret
                        exact ⟨by first | rfl | (simp [errW_none, errW_some] <;> rfl) | (simp [*, errW_none, errW_some] <;> rfl), by repeat (first | (with_reducible first | exact HB.out | apply below_alloc | apply pw_below_drewN | apply below_drew1) | exact HB.out)⟩
                      · rw [if_neg c24] at H
                        have c24b0 : decide ((wrap64 (a0 * a1)) < 0) = false := decide_eq_false c24
                        clear c24
                        have H' := Aside0.mk H
                        clear H
                        go_wp2
                        go_meet
                        case rel => exact ⟨_, H', ⟨by have := HJ2.out; first | omega | exact Nat.le_refl _⟩, ⟨by repeat (first | (with_reducible first | exact HB.out | apply below_alloc | apply pw_below_drewN | apply below_drew1) | exact HB.out)⟩⟩
                    · rw [if_neg c23] at H
                      have c23b0 : ((wrap64 (2 * (wrap64 ((wrap64 (a0 * a1)) - (wrap64 (t124 * 65536)))))) == (-65536)) = false := beq_eq_false_iff_ne.mpr c23
                      have c23b1 : ((wrap64 (2 * (wrap64 ((wrap64 (a0 * a1)) - (wrap64 (t124 * 65536)))))) != (-65536)) = true := bne_iff_ne.mpr c23
                      have H' := Aside0.mk H
                      clear H
                      go_wp2
                      go_meet
                      case rel => exact ⟨_, H', ⟨by have := HJ2.out; first | omega | exact Nat.le_refl _⟩, ⟨by repeat (first | (with_reducible first | exact HB.out | apply below_alloc | apply pw_below_drewN | apply below_drew1) | exact HB.out)⟩⟩
                · rw [if_neg c21] at H
                  have c21b0 : ((wrap64 (2 * (wrap64 ((wrap64 (a0 * a1)) - (wrap64 (t124 * 65536)))))) == 65536) = false := beq_eq_false_iff_ne.mpr c21
                  have c21b1 : ((wrap64 (2 * (wrap64 ((wrap64 (a0 * a1)) - (wrap64 (t124 * 65536)))))) != 65536) = true := bne_iff_ne.mpr c21
                  by_cases c25 : (wrap64 (2 * (wrap64 ((wrap64 (a0 * a1)) - (wrap64 (t124 * 65536)))))) = (-65536)
                  · rw [if_pos c25] at H
                    have c25b0 : ((wrap64 (2 * (wrap64 ((wrap64 (a0 * a1)) - (wrap64 (t124 * 65536)))))) == (-65536)) = true := beq_iff_eq.mpr c25
                    have c25b1 : ((wrap64 (2 * (wrap64 ((wrap64 (a0 * a1)) - (wrap64 (t124 * 65536)))))) != (-65536)) = false := bne_eq_false_iff_eq.mpr c25
                    clear c25
                    by_cases c26 : (wrap64 (a0 * a1)) < 0
                    · rw [if_pos c26] at H
                      have c26b0 : decide ((wrap64 (a0 * a1)) < 0) = true := decide_eq_true c26
                      clear c26
                      obtain rfl := Option.some.inj H
                      go_wp2
                      go_ret
                      exact ⟨by first | rfl | (simp [errW_none, errW_some] <;> rfl) | (simp [*, errW_none, errW_some] <;> rfl), by repeat (first | (with_reducible first | exact HB.out | apply below_alloc | apply pw_below_drewN | apply below_drew1) | exact HB.out)⟩
                    · rw [if_neg c26] at H
                      have c26b0 : decide ((wrap64 (a0 * a1)) < 0) = false := decide_eq_false c26
                      clear c26
                      have H' := Aside0.mk H
                      clear H
                      go_wp2
                      go_meet
                      case rel => exact ⟨_, H', ⟨by have := HJ2.out; first | omega | exact Nat.le_refl _⟩, ⟨by repeat (first | (with_reducible first | exact HB.out | apply below_alloc | apply pw_below_drewN | apply below_drew1) | exact HB.out)⟩⟩
                  · rw [if_neg c25] at H
                    have c25b0 : ((wrap64 (2 * (wrap64 ((wrap64 (a0 * a1)) - (wrap64 (t124 * 65536)))))) == (-65536)) = false := beq_eq_false_iff_ne.mpr c25
                    have c25b1 : ((wrap64 (2 * (wrap64 ((wrap64 (a0 * a1)) - (wrap64 (t124 * 65536)))))) != (-65536)) = true := bne_iff_ne.mpr c25
                    have H' := Aside0.mk H
                    clear H
                    go_wp2
                    go_meet
                    case rel => exact ⟨_, H', ⟨by have := HJ2.out; first | omega | exact Nat.le_refl _⟩, ⟨by repeat (first | (with_reducible first | exact HB.out | apply below_alloc | apply pw_below_drewN | apply below_drew1) | exact HB.out)⟩⟩
          · rw [if_neg c18] at H
            have c18b0 : (t125 == 0) = false := beq_eq_false_iff_ne.mpr c18
            have c18b1 : (t125 != 0) = true := bne_iff_ne.mpr c18
            (first | rw [c18b0] | (simp only [i64_w, i32_w]; rw [c18b0]) | skip)
            have H' := Aside0.mk H
            clear H
            go_wp2
            go_meet
            case rel => exact ⟨_, H', ⟨by have := HJ2.out; first | omega | exact Nat.le_refl _⟩, ⟨by repeat (first | (with_reducible first | exact HB.out | apply below_alloc | apply pw_below_drewN | apply below_drew1) | exact HB.out)⟩⟩
        case rest =>
          clear HC16
          try clear c1
          try clear c2
          try clear p2
          try clear c4
          try clear c5
          try clear p6
          try clear c7
          try clear c10
          try clear c12
          try clear c14
          try clear c18
          try clear c18b0
          try clear c18b1
          try clear c19
          try clear c19b0
          try clear c20
          try clear c20b0
          try clear c21
          try clear c21b0
          try clear c21b1
          try clear c22
          try clear c22b0
          try clear c23
          try clear c23b0
          try clear c23b1
          try clear c24
          try clear c24b0
          try clear c25
          try clear c25b0
          try clear c25b1
          try clear c26
          try clear c26b0
          try clear p2
          obtain ⟨kq, HA, HJ15, HB⟩ := hcut
          cases kq with
          | zero => exact absurd HA.out (by simp [mezzotintlaw01_FixNear.j1])
          | succ kj15 =>
            have H := HA.out
            clear HA
            simp only [mezzotintlaw01_FixNear.j1] at H
            replace H := Option.bind_eq_some_iff.mp H
            obtain ⟨⟨t126, t127⟩, A270, H⟩ := H
            replace H : (if t127 = 0 then (if (wrap64 (2 * (wrap64 ((wrap64 (a0 * 65536)) - (wrap64 (t126 * a1)))))) < 0 then (if a1 < 0 then (some (decide ((wrap64 (-(wrap64 (2 * (wrap64 ((wrap64 (a0 * 65536)) - (wrap64 (t126 * a1)))))))) ≤ (wrap64 (-a1))))) else (some (decide ((wrap64 (-(wrap64 (2 * (wrap64 ((wrap64 (a0 * 65536)) - (wrap64 (t126 * a1)))))))) ≤ a1)))) else (if a1 < 0 then (some (decide ((wrap64 (2 * (wrap64 ((wrap64 (a0 * 65536)) - (wrap64 (t126 * a1)))))) ≤ (wrap64 (-a1))))) else (some (decide ((wrap64 (2 * (wrap64 ((wrap64 (a0 * 65536)) - (wrap64 (t126 * a1)))))) ≤ a1))))) else (some true)) = some r := H
            have A27 := Aside0.mk A270
            clear A270
            by_cases c28 : t127 = 0
            · rw [if_pos c28] at H
              have c28b0 : (t127 == 0) = true := beq_iff_eq.mpr c28
              have c28b1 : (t127 != 0) = false := bne_eq_false_iff_eq.mpr c28
              clear c28
              by_cases c29 : (wrap64 (2 * (wrap64 ((wrap64 (a0 * 65536)) - (wrap64 (t126 * a1)))))) < 0
              · rw [if_pos c29] at H
                have c29b0 : decide ((wrap64 (2 * (wrap64 ((wrap64 (a0 * 65536)) - (wrap64 (t126 * a1)))))) < 0) = true := decide_eq_true c29
                clear c29
                by_cases c30 : a1 < 0
                · rw [if_pos c30] at H
                  have c30b0 : decide (a1 < 0) = true := decide_eq_true c30
                  clear c30
                  obtain rfl := Option.some.inj H
                  go_wp2_with (first | ((with_reducible refine gate_callee (f := 12) rfl ?_); refine goesL_ (some 68) rfl rfl Try.func12 (by kernel_rfl) rfl #[.int .i64 a0, .int .i64 a1] rfl (by (try simp only [List.map_toArray, List.map_cons, List.map_nil]); first | done | rfl | (simp only [List.length_drop, List.length_take]; rfl)) ?_; (with_reducible refine (fix_Div.calls kj15 a0 a1 t126 t127 _ A27.out).mono ?_); rintro e w31 ⟨rfl, hb⟩; refine ⟨_, rfl, ?_⟩; have n0_ := Aside0.mk (below_step (by repeat (first | (with_reducible first | exact HB.out | apply below_alloc | apply pw_below_drewN | apply below_drew1) | exact HB.out)) hb); clear HB; have HB := n0_; clear n0_; (try clear hb); (try clear hb2); (try clear hk); (try clear hi)))
                  go_ret
                  exact ⟨by first | rfl | (simp [errW_none, errW_some] <;> rfl) | (simp [*, errW_none, errW_some] <;> rfl), by repeat (first | (with_reducible first | exact HB.out | apply below_alloc | apply pw_below_drewN | apply below_drew1) | exact HB.out)⟩
                · rw [if_neg c30] at H
                  have c30b0 : decide (a1 < 0) = false := decide_eq_false c30
                  clear c30
                  obtain rfl := Option.some.inj H
                  go_wp2_with (first | ((with_reducible refine gate_callee (f := 12) rfl ?_); refine goesL_ (some 68) rfl rfl Try.func12 (by kernel_rfl) rfl #[.int .i64 a0, .int .i64 a1] rfl (by (try simp only [List.map_toArray, List.map_cons, List.map_nil]); first | done | rfl | (simp only [List.length_drop, List.length_take]; rfl)) ?_; (with_reducible refine (fix_Div.calls kj15 a0 a1 t126 t127 _ A27.out).mono ?_); rintro e w32 ⟨rfl, hb⟩; refine ⟨_, rfl, ?_⟩; have n0_ := Aside0.mk (below_step (by repeat (first | (with_reducible first | exact HB.out | apply below_alloc | apply pw_below_drewN | apply below_drew1) | exact HB.out)) hb); clear HB; have HB := n0_; clear n0_; (try clear hb); (try clear hb2); (try clear hk); (try clear hi)))
                  go_ret
                  exact ⟨by first | rfl | (simp [errW_none, errW_some] <;> rfl) | (simp [*, errW_none, errW_some] <;> rfl), by repeat (first | (with_reducible first | exact HB.out | apply below_alloc | apply pw_below_drewN | apply below_drew1) | exact HB.out)⟩
              · rw [if_neg c29] at H
                have c29b0 : decide ((wrap64 (2 * (wrap64 ((wrap64 (a0 * 65536)) - (wrap64 (t126 * a1)))))) < 0) = false := decide_eq_false c29
                clear c29
                by_cases c33 : a1 < 0
                · rw [if_pos c33] at H
                  have c33b0 : decide (a1 < 0) = true := decide_eq_true c33
                  clear c33
                  obtain rfl := Option.some.inj H
                  go_wp2_with (first | ((with_reducible refine gate_callee (f := 12) rfl ?_); refine goesL_ (some 68) rfl rfl Try.func12 (by kernel_rfl) rfl #[.int .i64 a0, .int .i64 a1] rfl (by (try simp only [List.map_toArray, List.map_cons, List.map_nil]); first | done | rfl | (simp only [List.length_drop, List.length_take]; rfl)) ?_; (with_reducible refine (fix_Div.calls kj15 a0 a1 t126 t127 _ A27.out).mono ?_); rintro e w34 ⟨rfl, hb⟩; refine ⟨_, rfl, ?_⟩; have n0_ := Aside0.mk (below_step (by repeat (first | (with_reducible first | exact HB.out | apply below_alloc | apply pw_below_drewN | apply below_drew1) | exact HB.out)) hb); clear HB; have HB := n0_; clear n0_; (try clear hb); (try clear hb2); (try clear hk); (try clear hi)))
                  go_ret
                  exact ⟨by first | rfl | (simp [errW_none, errW_some] <;> rfl) | (simp [*, errW_none, errW_some] <;> rfl), by repeat (first | (with_reducible first | exact HB.out | apply below_alloc | apply pw_below_drewN | apply below_drew1) | exact HB.out)⟩
                · rw [if_neg c33] at H
                  have c33b0 : decide (a1 < 0) = false := decide_eq_false c33
                  clear c33
                  obtain rfl := Option.some.inj H
                  go_wp2_with (first | ((with_reducible refine gate_callee (f := 12) rfl ?_); refine goesL_ (some 68) rfl rfl Try.func12 (by kernel_rfl) rfl #[.int .i64 a0, .int .i64 a1] rfl (by (try simp only [List.map_toArray, List.map_cons, List.map_nil]); first | done | rfl | (simp only [List.length_drop, List.length_take]; rfl)) ?_; (with_reducible refine (fix_Div.calls kj15 a0 a1 t126 t127 _ A27.out).mono ?_); rintro e w35 ⟨rfl, hb⟩; refine ⟨_, rfl, ?_⟩; have n0_ := Aside0.mk (below_step (by repeat (first | (with_reducible first | exact HB.out | apply below_alloc | apply pw_below_drewN | apply below_drew1) | exact HB.out)) hb); clear HB; have HB := n0_; clear n0_; (try clear hb); (try clear hb2); (try clear hk); (try clear hi)))
                  go_ret
                  exact ⟨by first | rfl | (simp [errW_none, errW_some] <;> rfl) | (simp [*, errW_none, errW_some] <;> rfl), by repeat (first | (with_reducible first | exact HB.out | apply below_alloc | apply pw_below_drewN | apply below_drew1) | exact HB.out)⟩
            · rw [if_neg c28] at H
              have c28b0 : (t127 == 0) = false := beq_eq_false_iff_ne.mpr c28
              have c28b1 : (t127 != 0) = true := bne_iff_ne.mpr c28
              obtain rfl := Option.some.inj H
              go_wp2_with (first | ((with_reducible refine gate_callee (f := 12) rfl ?_); refine goesL_ (some 68) rfl rfl Try.func12 (by kernel_rfl) rfl #[.int .i64 a0, .int .i64 a1] rfl (by (try simp only [List.map_toArray, List.map_cons, List.map_nil]); first | done | rfl | (simp only [List.length_drop, List.length_take]; rfl)) ?_; (with_reducible refine (fix_Div.calls kj15 a0 a1 t126 t127 _ A27.out).mono ?_); rintro e w36 ⟨rfl, hb⟩; refine ⟨_, rfl, ?_⟩; have n0_ := Aside0.mk (below_step (by repeat (first | (with_reducible first | exact HB.out | apply below_alloc | apply pw_below_drewN | apply below_drew1) | exact HB.out)) hb); clear HB; have HB := n0_; clear n0_; (try clear hb); (try clear hb2); (try clear hk); (try clear hi)))
              go_ret
              exact ⟨by first | rfl | (simp [errW_none, errW_some] <;> rfl) | (simp [*, errW_none, errW_some] <;> rfl), by repeat (first | (with_reducible first | exact HB.out | apply below_alloc | apply pw_below_drewN | apply below_drew1) | exact HB.out)⟩

/-- THE ONE PURE STATEMENT of mezzotintlaw01_FixNear: yours. -/
def mezzotintlaw01_FixNear.Pure : Prop := ∀ (a0 : Int) (a1 : Int), (Lit.int .i64 a0).wf = true → (Lit.int .i64 a1).wf = true → ∃ k, mezzotintlaw01_FixNear.f k a0 a1 = some true
theorem mezzotintlaw01_FixNear.walk (P : mezzotintlaw01_FixNear.Pure) (a0 : Int) (a1 : Int) (w : World) (w0 : (Lit.int .i64 a0).wf = true) (w1 : (Lit.int .i64 a1).wf = true) :
    Calls Try.prog 4 #[.int .i64 a0, .int .i64 a1] w fun e w' => e = .returned (.bool true) ∧ Below w.heap.size w w' := by
  obtain ⟨k, h⟩ := P a0 a1 w0 w1
  refine (mezzotintlaw01_FixNear.calls k a0 a1 true w h).mono ?_
  rintro e w' ⟨rfl, hd⟩
  exact ⟨rfl, hd⟩

end Go.Proofs.Ytonchamkagadbaa.PFixNear
