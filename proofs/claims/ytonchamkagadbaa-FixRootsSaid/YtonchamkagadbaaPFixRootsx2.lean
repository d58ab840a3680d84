-- PRINTED BY print.sh 35421559b90ae4d0a3588c463048766b98c2df88dd9212a6774a882060cdf62d: not written by this session
import Derived.Test.YtonchamkagadbaaPFixRootsx0
import Derived.Test.YtonchamkagadbaaPFixRootsx1
namespace Go.Proofs.Ytonchamkagadbaa.PFixRoots
open Go.RowKit Go.Proofs.YtonchamkagadbaaW.PrintWords Go.Proofs.YtonchamkagadbaaW.PrintLast Go.Proofs.YtonchamkagadbaaW.PrintMore
attribute [local go_sem] max2_int min2_int max_two min_two max_three min_three max_four min_four   -- for this text's walks alone
set_option linter.unusedVariables false
set_option linter.unusedSimpArgs false

/-! ### mezzotintlaw01_FixRoots: function 5 -/
def mezzotintlaw01_FixRoots.j0 : Nat → Int → Int → Int → Bool → Option (Bool)
  | 0, _, _, _, _ => none
  | k + 1, x0, x3, x4, x26 => if x26 = true then (some false) else (if x4 = 0 then (if x3 ≥ 0 then (if x3 = 0 then (some (decide ((wrap64 ((wrap64 ((wrap64 (2 * x3)) + 1)) * (wrap64 ((wrap64 (2 * x3)) + 1)))) > (wrap64 ((wrap64 (4 * x0)) * 65536))))) else (if (wrap64 ((wrap64 ((wrap64 (2 * x3)) - 1)) * (wrap64 ((wrap64 (2 * x3)) - 1)))) ≤ (wrap64 ((wrap64 (4 * x0)) * 65536)) then (some (decide ((wrap64 ((wrap64 ((wrap64 (2 * x3)) + 1)) * (wrap64 ((wrap64 (2 * x3)) + 1)))) > (wrap64 ((wrap64 (4 * x0)) * 65536))))) else (some false))) else (some false)) else ((mezzotintref01_Fits.f x0).bind fun t121 => (if t121 = true then (some (decide (x0 < 0))) else (some true))))
def mezzotintlaw01_FixRoots.f (k : Nat) (a0 : Int) : Option (Bool) := (fix_Sqrt.f k a0).bind fun bt115 => ((mezzotintref01_Sqrt.f k a0).bind fun bt117 => ((mezzotintlaw01_answers.f k).bind fun t119 => (if t119 = true then ((mezzotintlaw01_same.f bt115.1 bt115.2 bt117.1 bt117.2).bind fun t120 => (mezzotintlaw01_FixRoots.j0 k a0 bt115.1 bt115.2 (!t120))) else (mezzotintlaw01_FixRoots.j0 k a0 bt115.1 bt115.2 true))))
theorem mezzotintlaw01_FixRoots.mono_l : ∀ k, (∀ y0 y1 y2 y3, LeO (mezzotintlaw01_FixRoots.j0 k y0 y1 y2 y3) (mezzotintlaw01_FixRoots.j0 (k + 1) y0 y1 y2 y3))
  | 0 => fun _ _ _ _ r h => by simp [mezzotintlaw01_FixRoots.j0] at h
  | k + 1 => by
    have ih0 := mezzotintlaw01_FixRoots.mono_l k
    · intro y0 y1 y2 y3
      unfold mezzotintlaw01_FixRoots.j0
      repeat' first
      | (with_reducible exact ih0 _ _ _ _)
      | (with_reducible exact fix_Sqrt.mono _ _)
      | (with_reducible exact mezzotintlaw01_answers.mono _)
      | (with_reducible exact mezzotintref01_Sqrt.mono _ _)
      | (with_reducible exact LeO.refl _)
      | (with_reducible exact LeO.none _)
      | (with_reducible refine LeO.ite ?_ ?_)
      | (with_reducible refine LeO.bind ?_ (fun _ => ?_))
      | exact ih0 _ _ _ _
      | exact fix_Sqrt.mono _ _
      | exact mezzotintlaw01_answers.mono _
      | exact mezzotintref01_Sqrt.mono _ _
      | exact LeO.none _
      | refine LeO.ite ?_ ?_
      | refine LeO.bind ?_ (fun _ => ?_)
theorem mezzotintlaw01_FixRoots.mono : ∀ a0 k, LeO (mezzotintlaw01_FixRoots.f k a0) (mezzotintlaw01_FixRoots.f (k + 1) a0) := by
  intro a0 k
  have ih0 := mezzotintlaw01_FixRoots.mono_l k
  unfold mezzotintlaw01_FixRoots.f
  repeat' first
      | (with_reducible exact ih0 _ _ _ _)
      | (with_reducible exact fix_Sqrt.mono _ _)
      | (with_reducible exact mezzotintlaw01_answers.mono _)
      | (with_reducible exact mezzotintref01_Sqrt.mono _ _)
      | (with_reducible exact LeO.refl _)
      | (with_reducible exact LeO.none _)
      | (with_reducible refine LeO.ite ?_ ?_)
      | (with_reducible refine LeO.bind ?_ (fun _ => ?_))
      | exact ih0 _ _ _ _
      | exact fix_Sqrt.mono _ _
      | exact mezzotintlaw01_answers.mono _
      | exact mezzotintref01_Sqrt.mono _ _
      | exact LeO.none _
      | refine LeO.ite ?_ ?_
      | refine LeO.bind ?_ (fun _ => ?_)
set_option maxHeartbeats 8000000 in
set_option maxRecDepth 100000 in
theorem mezzotintlaw01_FixRoots.calls (k : Nat) (a0 : Int) (r : Bool) (w : World) (h : mezzotintlaw01_FixRoots.f k a0 = some r) :
    Calls Try.prog 5 #[.int .i64 a0] w fun e w' => e = .returned (.bool r) ∧ Below w.heap.size w w' := by
  have HB := Aside0.mk (Below.refl w.heap.size w)
  have H : ((fix_Sqrt.f k a0).bind fun bt115 => ((mezzotintref01_Sqrt.f k a0).bind fun bt117 => ((mezzotintlaw01_answers.f k).bind fun t119 => (if t119 = true then ((mezzotintlaw01_same.f bt115.1 bt115.2 bt117.1 bt117.2).bind fun t120 => (mezzotintlaw01_FixRoots.j0 k a0 bt115.1 bt115.2 (!t120))) else (mezzotintlaw01_FixRoots.j0 k a0 bt115.1 bt115.2 true))))) = some r := h
  clear h
  replace H := Option.bind_eq_some_iff.mp H
  obtain ⟨⟨t115, t116⟩, A20, H⟩ := H
  replace H : ((mezzotintref01_Sqrt.f k a0).bind fun bt117 => ((mezzotintlaw01_answers.f k).bind fun t119 => (if t119 = true then ((mezzotintlaw01_same.f t115 t116 bt117.1 bt117.2).bind fun t120 => (mezzotintlaw01_FixRoots.j0 k a0 t115 t116 (!t120))) else (mezzotintlaw01_FixRoots.j0 k a0 t115 t116 true)))) = some r := H
  have A2 := Aside0.mk A20
  clear A20
  replace H := Option.bind_eq_some_iff.mp H
  obtain ⟨⟨t117, t118⟩, A30, H⟩ := H
  replace H : ((mezzotintlaw01_answers.f k).bind fun t119 => (if t119 = true then ((mezzotintlaw01_same.f t115 t116 t117 t118).bind fun t120 => (mezzotintlaw01_FixRoots.j0 k a0 t115 t116 (!t120))) else (mezzotintlaw01_FixRoots.j0 k a0 t115 t116 true))) = some r := H
  have A3 := Aside0.mk A30
  clear A30
  have HC4 := Aside0.mk H
  clear H
  go_enter Try.func5, Try.ntmps5
  go_upto_region 3 with (first | ((with_reducible refine gate_callee (f := 17) rfl ?_); refine goesL_ (some 9) rfl rfl Try.func17 (by kernel_rfl) rfl #[.int .i64 a0] rfl (by (try simp only [List.map_toArray, List.map_cons, List.map_nil]); first | done | rfl | (simp only [List.length_drop, List.length_take]; rfl)) ?_; (with_reducible refine (fix_Sqrt.calls k a0 t115 t116 _ A2.out).mono ?_); rintro e w' ⟨rfl, ⟨nd, rfl⟩⟩; refine ⟨_, rfl, ?_⟩) | ((with_reducible refine gate_callee (f := 18) rfl ?_); refine goesL_ (some 14) rfl rfl Try.func18 (by kernel_rfl) rfl #[.int .i64 a0] rfl (by (try simp only [List.map_toArray, List.map_cons, List.map_nil]); first | done | rfl | (simp only [List.length_drop, List.length_take]; rfl)) ?_; (with_reducible refine (mezzotintref01_Sqrt.calls k a0 t117 t118 _ A3.out).mono ?_); rintro e w' ⟨rfl, ⟨nd, rfl⟩⟩; refine ⟨_, rfl, ?_⟩))
  (try simp only [Act.put, List.setIfInBounds_toArray, List.set_cons_zero, List.set_cons_succ])
  go_cut [26] (fun v26 wc => ∃ (kq : Nat) (x26_3 : Bool), v26 = .bool x26_3 ∧ Aside0 (mezzotintlaw01_FixRoots.j0 kq a0 t115 t116 x26_3 = some r) ∧ Aside0 (kq ≤ k) ∧ Aside0 (Below w.heap.size w wc))
  case first =>
    have H := HC4.out
    clear HC4
    replace H := Option.bind_eq_some_iff.mp H
    obtain ⟨t119, A50, H⟩ := H
    replace H : (if t119 = true then ((mezzotintlaw01_same.f t115 t116 t117 t118).bind fun t120 => (mezzotintlaw01_FixRoots.j0 k a0 t115 t116 (!t120))) else (mezzotintlaw01_FixRoots.j0 k a0 t115 t116 true)) = some r := H
    have A5 := Aside0.mk A50
    clear A50
    by_cases c6 : t119 = true
    · subst c6
      have H1 : ((mezzotintlaw01_same.f t115 t116 t117 t118).bind fun t120 => (mezzotintlaw01_FixRoots.j0 k a0 t115 t116 (!t120))) = some r := by rw [if_pos rfl] at H; exact H
      clear H
      have H := H1
      clear H1
      replace H := Option.bind_eq_some_iff.mp H
      obtain ⟨t120, A70, H⟩ := H
      replace H : (mezzotintlaw01_FixRoots.j0 k a0 t115 t116 (!t120)) = some r := H
      have A7 := Aside0.mk A70
      clear A70
      have H' := Aside0.mk H
      clear H
      go_wp2_with (first | ((with_reducible refine gate_callee (f := 14) rfl ?_); refine goesL_ (some 17) rfl rfl Try.func14 (by kernel_rfl) rfl #[] rfl (by (try simp only [List.map_toArray, List.map_cons, List.map_nil]); first | done | rfl | (simp only [List.length_drop, List.length_take]; rfl)) ?_; (with_reducible refine (mezzotintlaw01_answers.calls k  true _ A5.out).mono ?_); rintro e w8 ⟨rfl, hb⟩; refine ⟨_, rfl, ?_⟩; have n0_ := Aside0.mk (below_step (by repeat (first | (with_reducible first | exact HB.out | apply below_alloc | apply pw_below_drewN | apply below_drew1) | exact HB.out)) hb); clear HB; have HB := n0_; clear n0_; (try clear hb); (try clear hb2); (try clear hk); (try clear hi)) | (go_at_call 15; (with_reducible refine (mezzotintlaw01_same.calls t115 t116 t117 t118 t120 _ A7.out).mono ?_); rintro e w' ⟨rfl, ⟨nd, rfl⟩⟩))
      go_meet
      case rel => exact ⟨_, (!t120), (by first | rfl | (simp; done) | (simp [*]; done)), H', ⟨by first | omega | exact Nat.le_refl _⟩, ⟨by repeat (first | (with_reducible first | exact HB.out | apply below_alloc | apply pw_below_drewN | apply below_drew1) | exact HB.out)⟩⟩
    · replace c6 := Bool.eq_false_iff.mpr c6
      subst c6
      have H1 : (mezzotintlaw01_FixRoots.j0 k a0 t115 t116 true) = some r := by rw [if_neg (show ¬ (false = true) by decide)] at H; exact H
      clear H
      have H := H1
      clear H1
      have H' := Aside0.mk H
      clear H
      go_wp2_with (first | ((with_reducible refine gate_callee (f := 14) rfl ?_); refine goesL_ (some 17) rfl rfl Try.func14 (by kernel_rfl) rfl #[] rfl (by (try simp only [List.map_toArray, List.map_cons, List.map_nil]); first | done | rfl | (simp only [List.length_drop, List.length_take]; rfl)) ?_; (with_reducible refine (mezzotintlaw01_answers.calls k  false _ A5.out).mono ?_); rintro e w9 ⟨rfl, hb⟩; refine ⟨_, rfl, ?_⟩; have n0_ := Aside0.mk (below_step (by repeat (first | (with_reducible first | exact HB.out | apply below_alloc | apply pw_below_drewN | apply below_drew1) | exact HB.out)) hb); clear HB; have HB := n0_; clear n0_; (try clear hb); (try clear hb2); (try clear hk); (try clear hi)))
      go_meet
      case rel => exact ⟨_, (true), (by first | rfl | (simp; done) | (simp [*]; done)), H', ⟨by first | omega | exact Nat.le_refl _⟩, ⟨by repeat (first | (with_reducible first | exact HB.out | apply below_alloc | apply pw_below_drewN | apply below_drew1) | exact HB.out)⟩⟩
  case rest =>
    clear HC4
    try clear c1
    try clear p2
    try clear c5
    try clear c6
    obtain ⟨kq, x26_3, rfl, HA, HJ3, HB⟩ := hcut
    cases kq with
    | zero => exact absurd HA.out (by simp [mezzotintlaw01_FixRoots.j0])
    | succ kj3 =>
      have H := HA.out
      clear HA
      simp only [mezzotintlaw01_FixRoots.j0] at H
      by_cases c10 : x26_3 = true
      · subst c10
        have H1 : (some false) = some r := by rw [if_pos rfl] at H; exact H
        clear H
        have H := H1
        clear H1
        obtain rfl := Option.some.inj H
        go_wp2
        go_ret
        exact ⟨by first | rfl | (simp [errW_none, errW_some] <;> rfl) | (simp [*, errW_none, errW_some] <;> rfl), by repeat (first | (with_reducible first | exact HB.out | apply below_alloc | apply pw_below_drewN | apply below_drew1) | exact HB.out)⟩
      · replace c10 := Bool.eq_false_iff.mpr c10
        subst c10
        have H1 : (if t116 = 0 then (if t115 ≥ 0 then (if t115 = 0 then (some (decide ((wrap64 ((wrap64 ((wrap64 (2 * t115)) + 1)) * (wrap64 ((wrap64 (2 * t115)) + 1)))) > (wrap64 ((wrap64 (4 * a0)) * 65536))))) else (if (wrap64 ((wrap64 ((wrap64 (2 * t115)) - 1)) * (wrap64 ((wrap64 (2 * t115)) - 1)))) ≤ (wrap64 ((wrap64 (4 * a0)) * 65536)) then (some (decide ((wrap64 ((wrap64 ((wrap64 (2 * t115)) + 1)) * (wrap64 ((wrap64 (2 * t115)) + 1)))) > (wrap64 ((wrap64 (4 * a0)) * 65536))))) else (some false))) else (some false)) else ((mezzotintref01_Fits.f a0).bind fun t121 => (if t121 = true then (some (decide (a0 < 0))) else (some true)))) = some r := by rw [if_neg (show ¬ (false = true) by decide)] at H; exact H
        clear H
        have H := H1
        clear H1
        by_cases c11 : t116 = 0
        · rw [if_pos c11] at H
          have c11b0 : (t116 == 0) = true := beq_iff_eq.mpr c11
          have c11b1 : (t116 != 0) = false := bne_eq_false_iff_eq.mpr c11
          clear c11
          by_cases c12 : t115 ≥ 0
          · rw [if_pos c12] at H
            have c12b0 : decide (0 ≤ t115) = true := decide_eq_true c12
            clear c12
            by_cases c13 : t115 = 0
            · rw [if_pos c13] at H
              have c13b0 : (t115 == 0) = true := beq_iff_eq.mpr c13
              have c13b1 : (t115 != 0) = false := bne_eq_false_iff_eq.mpr c13
              clear c13
              obtain rfl := Option.some.inj H
              go_wp2
              go_ret
              exact ⟨by first | rfl | (simp [errW_none, errW_some] <;> rfl) | (simp [*, errW_none, errW_some] <;> rfl), by repeat (first | (with_reducible first | exact HB.out | apply below_alloc | apply pw_below_drewN | apply below_drew1) | exact HB.out)⟩
            · rw [if_neg c13] at H
              have c13b0 : (t115 == 0) = false := beq_eq_false_iff_ne.mpr c13
              have c13b1 : (t115 != 0) = true := bne_iff_ne.mpr c13
              by_cases c14 : (wrap64 ((wrap64 ((wrap64 (2 * t115)) - 1)) * (wrap64 ((wrap64 (2 * t115)) - 1)))) ≤ (wrap64 ((wrap64 (4 * a0)) * 65536))
              · rw [if_pos c14] at H
                have c14b0 : decide ((wrap64 ((wrap64 ((wrap64 (2 * t115)) - 1)) * (wrap64 ((wrap64 (2 * t115)) - 1)))) ≤ (wrap64 ((wrap64 (4 * a0)) * 65536))) = true := decide_eq_true c14
                clear c14
                obtain rfl := Option.some.inj H
                go_wp2
                go_ret
                exact ⟨by first | rfl | (simp [errW_none, errW_some] <;> rfl) | (simp [*, errW_none, errW_some] <;> rfl), by repeat (first | (with_reducible first | exact HB.out | apply below_alloc | apply pw_below_drewN | apply below_drew1) | exact HB.out)⟩
              · rw [if_neg c14] at H
                have c14b0 : decide ((wrap64 ((wrap64 ((wrap64 (2 * t115)) - 1)) * (wrap64 ((wrap64 (2 * t115)) - 1)))) ≤ (wrap64 ((wrap64 (4 * a0)) * 65536))) = false := decide_eq_false c14
                clear c14
                obtain rfl := Option.some.inj H
                go_wp2
                go_ret
                exact ⟨by first | rfl | (simp [errW_none, errW_some] <;> rfl) | (simp [*, errW_none, errW_some] <;> rfl), by repeat (first | (with_reducible first | exact HB.out | apply below_alloc | apply pw_below_drewN | apply below_drew1) | exact HB.out)⟩
          · rw [if_neg c12] at H
            have c12b0 : decide (0 ≤ t115) = false := decide_eq_false c12
            clear c12
            obtain rfl := Option.some.inj H
            go_wp2
            go_ret
            exact ⟨by first | rfl | (simp [errW_none, errW_some] <;> rfl) | (simp [*, errW_none, errW_some] <;> rfl), by repeat (first | (with_reducible first | exact HB.out | apply below_alloc | apply pw_below_drewN | apply below_drew1) | exact HB.out)⟩
        · rw [if_neg c11] at H
          have c11b0 : (t116 == 0) = false := beq_eq_false_iff_ne.mpr c11
          have c11b1 : (t116 != 0) = true := bne_iff_ne.mpr c11
          replace H := Option.bind_eq_some_iff.mp H
          obtain ⟨t121, A150, H⟩ := H
          replace H : (if t121 = true then (some (decide (a0 < 0))) else (some true)) = some r := H
          have A15 := Aside0.mk A150
          clear A150
          by_cases c16 : t121 = true
          · subst c16
            have H1 : (some (decide (a0 < 0))) = some r := by rw [if_pos rfl] at H; exact H
            clear H
            have H := H1
            clear H1
            obtain rfl := Option.some.inj H
            go_wp2_with (first | ((with_reducible refine gate_callee (f := 16) rfl ?_); refine goesL_ (some 30) rfl rfl Try.func16 (by kernel_rfl) rfl #[.int .i64 a0] rfl (by (try simp only [List.map_toArray, List.map_cons, List.map_nil]); first | done | rfl | (simp only [List.length_drop, List.length_take]; rfl)) ?_; (with_reducible refine (mezzotintref01_Fits.calls a0 true _ A15.out).mono ?_); rintro e w' ⟨rfl, ⟨nd, rfl⟩⟩; refine ⟨_, rfl, ?_⟩))
            go_ret
            exact ⟨by first | rfl | (simp [errW_none, errW_some] <;> rfl) | (simp [*, errW_none, errW_some] <;> rfl), by repeat (first | (with_reducible first | exact HB.out | apply below_alloc | apply pw_below_drewN | apply below_drew1) | exact HB.out)⟩
          · replace c16 := Bool.eq_false_iff.mpr c16
            subst c16
            have H1 : (some true) = some r := by rw [if_neg (show ¬ (false = true) by decide)] at H; exact H
            clear H
            have H := H1
            clear H1
            obtain rfl := Option.some.inj H
            go_wp2_with (first | ((with_reducible refine gate_callee (f := 16) rfl ?_); refine goesL_ (some 30) rfl rfl Try.func16 (by kernel_rfl) rfl #[.int .i64 a0] rfl (by (try simp only [List.map_toArray, List.map_cons, List.map_nil]); first | done | rfl | (simp only [List.length_drop, List.length_take]; rfl)) ?_; (with_reducible refine (mezzotintref01_Fits.calls a0 false _ A15.out).mono ?_); rintro e w' ⟨rfl, ⟨nd, rfl⟩⟩; refine ⟨_, rfl, ?_⟩))
            go_ret
            exact ⟨by first | rfl | (simp [errW_none, errW_some] <;> rfl) | (simp [*, errW_none, errW_some] <;> rfl), by repeat (first | (with_reducible first | exact HB.out | apply below_alloc | apply pw_below_drewN | apply below_drew1) | exact HB.out)⟩

/-- THE ONE PURE STATEMENT of mezzotintlaw01_FixRoots: yours. -/
def mezzotintlaw01_FixRoots.Pure : Prop := ∀ (a0 : Int), (Lit.int .i64 a0).wf = true → ∃ k, mezzotintlaw01_FixRoots.f k a0 = some true
theorem mezzotintlaw01_FixRoots.walk (P : mezzotintlaw01_FixRoots.Pure) (a0 : Int) (w : World) (w0 : (Lit.int .i64 a0).wf = true) :
    Calls Try.prog 5 #[.int .i64 a0] w fun e w' => e = .returned (.bool true) ∧ Below w.heap.size w w' := by
  obtain ⟨k, h⟩ := P a0 w0
  refine (mezzotintlaw01_FixRoots.calls k a0 true w h).mono ?_
  rintro e w' ⟨rfl, hd⟩
  exact ⟨rfl, hd⟩

end Go.Proofs.Ytonchamkagadbaa.PFixRoots
