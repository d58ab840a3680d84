-- PRINTED BY print.sh 35421559b90ae4d0a3588c463048766b98c2df88dd9212a6774a882060cdf62d: not written by this session
import Derived.Test.YtonchamkagadbaaPFixSumsx0
import Derived.Test.YtonchamkagadbaaPFixSumsx1
namespace Go.Proofs.Ytonchamkagadbaa.PFixSums
open Go.RowKit Go.Proofs.YtonchamkagadbaaW.PrintWords Go.Proofs.YtonchamkagadbaaW.PrintLast Go.Proofs.YtonchamkagadbaaW.PrintMore
attribute [local go_sem] max2_int min2_int max_two min_two max_three min_three max_four min_four   -- for this text's walks alone
set_option linter.unusedVariables false
set_option linter.unusedSimpArgs false

/-! ### mezzotintlaw01_FixSums: function 7 -/
mutual
def mezzotintlaw01_FixSums.j0 : Nat → List Int → Bool → Option (Bool)
  | 0, _, _ => none
  | k + 1, x2, x73 => if x73 = true then ((mezzotintlaw01_answers.f k).bind fun t150 => (if t150 = true then (some (decide ((x2.length : Int) > 10000))) else (some false))) else (mezzotintlaw01_FixSums.l0 k x2 0 0 0)
def mezzotintlaw01_FixSums.j2 : Nat → List Int → Int → Int → Option (Bool)
  | 0, _, _, _ => none
  | k + 1, x2, x15, x16 => if x16 = 0 then ((some (([] : List Int) : List Int)).bind fun y154 => (if y154.length + x2.length < 17592186044416 then ((fix_Sum.f k (y154 ++ x2)).bind fun bt160 => ((mezzotintlaw01_same.f bt160.1 bt160.2 x15 x16).bind fun t162 => (some t162))) else (none))) else ((some (([] : List Int) : List Int)).bind fun y163 => (if y163.length + x2.length < 17592186044416 then ((fix_Sum.f k (y163 ++ x2)).bind fun bt169 => ((mezzotintlaw01_same.f bt169.1 bt169.2 0 x16).bind fun t171 => (some t171))) else (none)))
def mezzotintlaw01_FixSums.l0 : Nat → List Int → Int → Int → Int → Option (Bool)
  | 0, _, _, _, _ => none
  | k + 1, x2, x15, x16, x17 => if x17 < (x2.length : Int) then (if x16 = 0 then (if 0 ≤ x17 then ((mezzotintref01_Add.f x15 (rd x2 x17)).bind fun bt152 => (mezzotintlaw01_FixSums.l0 k x2 bt152.1 bt152.2 (wrap64 (x17 + 1)))) else (none)) else (mezzotintlaw01_FixSums.j2 k x2 x15 x16)) else (mezzotintlaw01_FixSums.j2 k x2 x15 x16)
end
def mezzotintlaw01_FixSums.f (k : Nat) (a0 : Int) (a1 : Int) (l2 : List Int) : Option (Bool) := (fix_Add.f k a0 a1).bind fun bt137 => ((mezzotintref01_Add.f a0 a1).bind fun bt139 => ((fix_Sub.f k a0 a1).bind fun bt141 => ((mezzotintref01_Sub.f a0 a1).bind fun bt143 => ((mezzotintlaw01_answers.f k).bind fun t145 => (if t145 = true then ((mezzotintlaw01_same.f bt137.1 bt137.2 bt139.1 bt139.2).bind fun t146 => (if t146 = true then ((mezzotintlaw01_same.f bt141.1 bt141.2 bt143.1 bt143.2).bind fun t147 => (if t147 = true then ((fix_Fits.f a0).bind fun t148 => ((mezzotintref01_Fits.f a0).bind fun t149 => (if (t148 != t149) = true then (mezzotintlaw01_FixSums.j0 k l2 true) else (mezzotintlaw01_FixSums.j0 k l2 (decide ((l2.length : Int) > 10000)))))) else (mezzotintlaw01_FixSums.j0 k l2 true))) else (mezzotintlaw01_FixSums.j0 k l2 true))) else (mezzotintlaw01_FixSums.j0 k l2 true))))))
theorem mezzotintlaw01_FixSums.mono_l : ∀ k, (∀ y0 y1, LeO (mezzotintlaw01_FixSums.j0 k y0 y1) (mezzotintlaw01_FixSums.j0 (k + 1) y0 y1)) ∧ (∀ y0 y1 y2, LeO (mezzotintlaw01_FixSums.j2 k y0 y1 y2) (mezzotintlaw01_FixSums.j2 (k + 1) y0 y1 y2)) ∧ (∀ y0 y1 y2 y3, LeO (mezzotintlaw01_FixSums.l0 k y0 y1 y2 y3) (mezzotintlaw01_FixSums.l0 (k + 1) y0 y1 y2 y3))
  | 0 => ⟨fun _ _ r h => by simp [mezzotintlaw01_FixSums.j0] at h, fun _ _ _ r h => by simp [mezzotintlaw01_FixSums.j2] at h, fun _ _ _ _ r h => by simp [mezzotintlaw01_FixSums.l0] at h⟩
  | k + 1 => by
    obtain ⟨ih0, ih1, ih2⟩ := mezzotintlaw01_FixSums.mono_l k
    refine ⟨?_, ?_, ?_⟩
    · intro y0 y1
      unfold mezzotintlaw01_FixSums.j0
      repeat' first
      | (with_reducible exact ih0 _ _)
      | (with_reducible exact ih1 _ _ _)
      | (with_reducible exact ih2 _ _ _ _)
      | (with_reducible exact fix_Add.mono _ _ _)
      | (with_reducible exact fix_Sub.mono _ _ _)
      | (with_reducible exact fix_Sum.mono _ _)
      | (with_reducible exact mezzotintlaw01_answers.mono _)
      | (with_reducible exact LeO.refl _)
      | (with_reducible exact LeO.none _)
      | (with_reducible refine LeO.ite ?_ ?_)
      | (with_reducible refine LeO.bind ?_ (fun _ => ?_))
      | exact ih0 _ _
      | exact ih1 _ _ _
      | exact ih2 _ _ _ _
      | exact fix_Add.mono _ _ _
      | exact fix_Sub.mono _ _ _
      | exact fix_Sum.mono _ _
      | exact mezzotintlaw01_answers.mono _
      | exact LeO.none _
      | refine LeO.ite ?_ ?_
      | refine LeO.bind ?_ (fun _ => ?_)
    · intro y0 y1 y2
      unfold mezzotintlaw01_FixSums.j2
      repeat' first
      | (with_reducible exact ih0 _ _)
      | (with_reducible exact ih1 _ _ _)
      | (with_reducible exact ih2 _ _ _ _)
      | (with_reducible exact fix_Add.mono _ _ _)
      | (with_reducible exact fix_Sub.mono _ _ _)
      | (with_reducible exact fix_Sum.mono _ _)
      | (with_reducible exact mezzotintlaw01_answers.mono _)
      | (with_reducible exact LeO.refl _)
      | (with_reducible exact LeO.none _)
      | (with_reducible refine LeO.ite ?_ ?_)
      | (with_reducible refine LeO.bind ?_ (fun _ => ?_))
      | exact ih0 _ _
      | exact ih1 _ _ _
      | exact ih2 _ _ _ _
      | exact fix_Add.mono _ _ _
      | exact fix_Sub.mono _ _ _
      | exact fix_Sum.mono _ _
      | exact mezzotintlaw01_answers.mono _
      | exact LeO.none _
      | refine LeO.ite ?_ ?_
      | refine LeO.bind ?_ (fun _ => ?_)
    · intro y0 y1 y2 y3
      unfold mezzotintlaw01_FixSums.l0
      repeat' first
      | (with_reducible exact ih0 _ _)
      | (with_reducible exact ih1 _ _ _)
      | (with_reducible exact ih2 _ _ _ _)
      | (with_reducible exact fix_Add.mono _ _ _)
      | (with_reducible exact fix_Sub.mono _ _ _)
      | (with_reducible exact fix_Sum.mono _ _)
      | (with_reducible exact mezzotintlaw01_answers.mono _)
      | (with_reducible exact LeO.refl _)
      | (with_reducible exact LeO.none _)
      | (with_reducible refine LeO.ite ?_ ?_)
      | (with_reducible refine LeO.bind ?_ (fun _ => ?_))
      | exact ih0 _ _
      | exact ih1 _ _ _
      | exact ih2 _ _ _ _
      | exact fix_Add.mono _ _ _
      | exact fix_Sub.mono _ _ _
      | exact fix_Sum.mono _ _
      | exact mezzotintlaw01_answers.mono _
      | exact LeO.none _
      | refine LeO.ite ?_ ?_
      | refine LeO.bind ?_ (fun _ => ?_)
theorem mezzotintlaw01_FixSums.mono : ∀ a0 a1 a2 k, LeO (mezzotintlaw01_FixSums.f k a0 a1 a2) (mezzotintlaw01_FixSums.f (k + 1) a0 a1 a2) := by
  intro a0 a1 a2 k
  obtain ⟨ih0, ih1, ih2⟩ := mezzotintlaw01_FixSums.mono_l k
  unfold mezzotintlaw01_FixSums.f
  repeat' first
      | (with_reducible exact ih0 _ _)
      | (with_reducible exact ih1 _ _ _)
      | (with_reducible exact ih2 _ _ _ _)
      | (with_reducible exact fix_Add.mono _ _ _)
      | (with_reducible exact fix_Sub.mono _ _ _)
      | (with_reducible exact fix_Sum.mono _ _)
      | (with_reducible exact mezzotintlaw01_answers.mono _)
      | (with_reducible exact LeO.refl _)
      | (with_reducible exact LeO.none _)
      | (with_reducible refine LeO.ite ?_ ?_)
      | (with_reducible refine LeO.bind ?_ (fun _ => ?_))
      | exact ih0 _ _
      | exact ih1 _ _ _
      | exact ih2 _ _ _ _
      | exact fix_Add.mono _ _ _
      | exact fix_Sub.mono _ _ _
      | exact fix_Sum.mono _ _
      | exact mezzotintlaw01_answers.mono _
      | exact LeO.none _
      | refine LeO.ite ?_ ?_
      | refine LeO.bind ?_ (fun _ => ?_)
set_option maxHeartbeats 8000000 in
set_option maxRecDepth 100000 in
theorem mezzotintlaw01_FixSums.calls (k : Nat) (a0 : Int) (a1 : Int) (A2 : Option Addr) (c2 : Nat) (l2 : List Int) (r : Bool) (w : World) (hr2 : Kd.C (Kd.int .i64) w A2 l2.length l2) (hc2 : l2.length ≤ c2) (h : mezzotintlaw01_FixSums.f k a0 a1 l2 = some r) :
    Calls Try.prog 7 #[.int .i64 a0, .int .i64 a1, .slice A2 l2.length c2] w fun e w' => e = .returned (.bool r) ∧ Below w.heap.size w w' := by
  have HR2 := Aside0.mk hr2
  have HC2 := Aside0.mk hc2
  clear hr2 hc2
  have HB := Aside0.mk (Below.refl w.heap.size w)
  have H : ((fix_Add.f k a0 a1).bind fun bt137 => ((mezzotintref01_Add.f a0 a1).bind fun bt139 => ((fix_Sub.f k a0 a1).bind fun bt141 => ((mezzotintref01_Sub.f a0 a1).bind fun bt143 => ((mezzotintlaw01_answers.f k).bind fun t145 => (if t145 = true then ((mezzotintlaw01_same.f bt137.1 bt137.2 bt139.1 bt139.2).bind fun t146 => (if t146 = true then ((mezzotintlaw01_same.f bt141.1 bt141.2 bt143.1 bt143.2).bind fun t147 => (if t147 = true then ((fix_Fits.f a0).bind fun t148 => ((mezzotintref01_Fits.f a0).bind fun t149 => (if (t148 != t149) = true then (mezzotintlaw01_FixSums.j0 k l2 true) else (mezzotintlaw01_FixSums.j0 k l2 (decide ((l2.length : Int) > 10000)))))) else (mezzotintlaw01_FixSums.j0 k l2 true))) else (mezzotintlaw01_FixSums.j0 k l2 true))) else (mezzotintlaw01_FixSums.j0 k l2 true))))))) = some r := h
  clear h
  replace H := Option.bind_eq_some_iff.mp H
  obtain ⟨⟨t137, t138⟩, A40, H⟩ := H
  replace H : ((mezzotintref01_Add.f a0 a1).bind fun bt139 => ((fix_Sub.f k a0 a1).bind fun bt141 => ((mezzotintref01_Sub.f a0 a1).bind fun bt143 => ((mezzotintlaw01_answers.f k).bind fun t145 => (if t145 = true then ((mezzotintlaw01_same.f t137 t138 bt139.1 bt139.2).bind fun t146 => (if t146 = true then ((mezzotintlaw01_same.f bt141.1 bt141.2 bt143.1 bt143.2).bind fun t147 => (if t147 = true then ((fix_Fits.f a0).bind fun t148 => ((mezzotintref01_Fits.f a0).bind fun t149 => (if (t148 != t149) = true then (mezzotintlaw01_FixSums.j0 k l2 true) else (mezzotintlaw01_FixSums.j0 k l2 (decide ((l2.length : Int) > 10000)))))) else (mezzotintlaw01_FixSums.j0 k l2 true))) else (mezzotintlaw01_FixSums.j0 k l2 true))) else (mezzotintlaw01_FixSums.j0 k l2 true)))))) = some r := H
  have A4 := Aside0.mk A40
  clear A40
  replace H := Option.bind_eq_some_iff.mp H
  obtain ⟨⟨t139, t140⟩, A50, H⟩ := H
  replace H : ((fix_Sub.f k a0 a1).bind fun bt141 => ((mezzotintref01_Sub.f a0 a1).bind fun bt143 => ((mezzotintlaw01_answers.f k).bind fun t145 => (if t145 = true then ((mezzotintlaw01_same.f t137 t138 t139 t140).bind fun t146 => (if t146 = true then ((mezzotintlaw01_same.f bt141.1 bt141.2 bt143.1 bt143.2).bind fun t147 => (if t147 = true then ((fix_Fits.f a0).bind fun t148 => ((mezzotintref01_Fits.f a0).bind fun t149 => (if (t148 != t149) = true then (mezzotintlaw01_FixSums.j0 k l2 true) else (mezzotintlaw01_FixSums.j0 k l2 (decide ((l2.length : Int) > 10000)))))) else (mezzotintlaw01_FixSums.j0 k l2 true))) else (mezzotintlaw01_FixSums.j0 k l2 true))) else (mezzotintlaw01_FixSums.j0 k l2 true))))) = some r := H
  have A5 := Aside0.mk A50
  clear A50
  replace H := Option.bind_eq_some_iff.mp H
  obtain ⟨⟨t141, t142⟩, A60, H⟩ := H
  replace H : ((mezzotintref01_Sub.f a0 a1).bind fun bt143 => ((mezzotintlaw01_answers.f k).bind fun t145 => (if t145 = true then ((mezzotintlaw01_same.f t137 t138 t139 t140).bind fun t146 => (if t146 = true then ((mezzotintlaw01_same.f t141 t142 bt143.1 bt143.2).bind fun t147 => (if t147 = true then ((fix_Fits.f a0).bind fun t148 => ((mezzotintref01_Fits.f a0).bind fun t149 => (if (t148 != t149) = true then (mezzotintlaw01_FixSums.j0 k l2 true) else (mezzotintlaw01_FixSums.j0 k l2 (decide ((l2.length : Int) > 10000)))))) else (mezzotintlaw01_FixSums.j0 k l2 true))) else (mezzotintlaw01_FixSums.j0 k l2 true))) else (mezzotintlaw01_FixSums.j0 k l2 true)))) = some r := H
  have A6 := Aside0.mk A60
  clear A60
  replace H := Option.bind_eq_some_iff.mp H
  obtain ⟨⟨t143, t144⟩, A70, H⟩ := H
  replace H : ((mezzotintlaw01_answers.f k).bind fun t145 => (if t145 = true then ((mezzotintlaw01_same.f t137 t138 t139 t140).bind fun t146 => (if t146 = true then ((mezzotintlaw01_same.f t141 t142 t143 t144).bind fun t147 => (if t147 = true then ((fix_Fits.f a0).bind fun t148 => ((mezzotintref01_Fits.f a0).bind fun t149 => (if (t148 != t149) = true then (mezzotintlaw01_FixSums.j0 k l2 true) else (mezzotintlaw01_FixSums.j0 k l2 (decide ((l2.length : Int) > 10000)))))) else (mezzotintlaw01_FixSums.j0 k l2 true))) else (mezzotintlaw01_FixSums.j0 k l2 true))) else (mezzotintlaw01_FixSums.j0 k l2 true))) = some r := H
  have A7 := Aside0.mk A70
  clear A70
  have HC8 := Aside0.mk H
  clear H
  go_enter Try.func7, Try.ntmps7
  go_upto_region 5 with (first | ((with_reducible refine gate_callee (f := 19) rfl ?_); refine goesL_ (some 23) rfl rfl Try.func19 (by kernel_rfl) rfl #[.int .i64 a0, .int .i64 a1] rfl (by (try simp only [List.map_toArray, List.map_cons, List.map_nil]); first | done | rfl | (simp only [List.length_drop, List.length_take]; rfl)) ?_; (with_reducible refine (fix_Add.calls k a0 a1 t137 t138 _ A4.out).mono ?_); rintro e w9 ⟨rfl, hb⟩; refine ⟨_, rfl, ?_⟩; have n0_ := Aside0.mk (below_step (by repeat (first | (with_reducible first | exact HB.out | apply below_alloc | apply pw_below_drewN | apply below_drew1) | exact HB.out)) hb); clear HB; have HB := n0_; clear n0_; (try clear hb); (try clear hb2); (try clear hk); (try clear hi)) | ((with_reducible refine gate_callee (f := 21) rfl ?_); refine goesL_ (some 29) rfl rfl Try.func21 (by kernel_rfl) rfl #[.int .i64 a0, .int .i64 a1] rfl (by (try simp only [List.map_toArray, List.map_cons, List.map_nil]); first | done | rfl | (simp only [List.length_drop, List.length_take]; rfl)) ?_; (with_reducible refine (mezzotintref01_Add.calls a0 a1 t139 t140 _ A5.out).mono ?_); rintro e w' ⟨rfl, ⟨nd, rfl⟩⟩; refine ⟨_, rfl, ?_⟩) | ((with_reducible refine gate_callee (f := 20) rfl ?_); refine goesL_ (some 35) rfl rfl Try.func20 (by kernel_rfl) rfl #[.int .i64 a0, .int .i64 a1] rfl (by (try simp only [List.map_toArray, List.map_cons, List.map_nil]); first | done | rfl | (simp only [List.length_drop, List.length_take]; rfl)) ?_; (with_reducible refine (fix_Sub.calls k a0 a1 t141 t142 _ A6.out).mono ?_); rintro e w10 ⟨rfl, hb⟩; refine ⟨_, rfl, ?_⟩; have n0_ := Aside0.mk (below_step (by repeat (first | (with_reducible first | exact HB.out | apply below_alloc | apply pw_below_drewN | apply below_drew1) | exact HB.out)) hb); clear HB; have HB := n0_; clear n0_; (try clear hb); (try clear hb2); (try clear hk); (try clear hi)) | ((with_reducible refine gate_callee (f := 22) rfl ?_); refine goesL_ (some 41) rfl rfl Try.func22 (by kernel_rfl) rfl #[.int .i64 a0, .int .i64 a1] rfl (by (try simp only [List.map_toArray, List.map_cons, List.map_nil]); first | done | rfl | (simp only [List.length_drop, List.length_take]; rfl)) ?_; (with_reducible refine (mezzotintref01_Sub.calls a0 a1 t143 t144 _ A7.out).mono ?_); rintro e w' ⟨rfl, ⟨nd, rfl⟩⟩; refine ⟨_, rfl, ?_⟩))
  (try simp only [Act.put, List.setIfInBounds_toArray, List.set_cons_zero, List.set_cons_succ])
  go_cut [73] (fun v73 wc => ∃ (kq : Nat) (x73_7 : Bool), v73 = .bool x73_7 ∧ Aside0 (mezzotintlaw01_FixSums.j0 kq l2 x73_7 = some r) ∧ Aside0 (kq ≤ k) ∧ Aside0 (Below w.heap.size w wc))
  case first =>
    have H := HC8.out
    clear HC8
    replace H := Option.bind_eq_some_iff.mp H
    obtain ⟨t145, A110, H⟩ := H
    replace H : (if t145 = true then ((mezzotintlaw01_same.f t137 t138 t139 t140).bind fun t146 => (if t146 = true then ((mezzotintlaw01_same.f t141 t142 t143 t144).bind fun t147 => (if t147 = true then ((fix_Fits.f a0).bind fun t148 => ((mezzotintref01_Fits.f a0).bind fun t149 => (if (t148 != t149) = true then (mezzotintlaw01_FixSums.j0 k l2 true) else (mezzotintlaw01_FixSums.j0 k l2 (decide ((l2.length : Int) > 10000)))))) else (mezzotintlaw01_FixSums.j0 k l2 true))) else (mezzotintlaw01_FixSums.j0 k l2 true))) else (mezzotintlaw01_FixSums.j0 k l2 true)) = some r := H
    have A11 := Aside0.mk A110
    clear A110
    by_cases c12 : t145 = true
    · subst c12
      have H1 : ((mezzotintlaw01_same.f t137 t138 t139 t140).bind fun t146 => (if t146 = true then ((mezzotintlaw01_same.f t141 t142 t143 t144).bind fun t147 => (if t147 = true then ((fix_Fits.f a0).bind fun t148 => ((mezzotintref01_Fits.f a0).bind fun t149 => (if (t148 != t149) = true then (mezzotintlaw01_FixSums.j0 k l2 true) else (mezzotintlaw01_FixSums.j0 k l2 (decide ((l2.length : Int) > 10000)))))) else (mezzotintlaw01_FixSums.j0 k l2 true))) else (mezzotintlaw01_FixSums.j0 k l2 true))) = some r := by rw [if_pos rfl] at H; exact H
      clear H
      have H := H1
      clear H1
      replace H := Option.bind_eq_some_iff.mp H
      obtain ⟨t146, A130, H⟩ := H
      replace H : (if t146 = true then ((mezzotintlaw01_same.f t141 t142 t143 t144).bind fun t147 => (if t147 = true then ((fix_Fits.f a0).bind fun t148 => ((mezzotintref01_Fits.f a0).bind fun t149 => (if (t148 != t149) = true then (mezzotintlaw01_FixSums.j0 k l2 true) else (mezzotintlaw01_FixSums.j0 k l2 (decide ((l2.length : Int) > 10000)))))) else (mezzotintlaw01_FixSums.j0 k l2 true))) else (mezzotintlaw01_FixSums.j0 k l2 true)) = some r := H
      have A13 := Aside0.mk A130
      clear A130
      by_cases c14 : t146 = true
      · subst c14
        have H1 : ((mezzotintlaw01_same.f t141 t142 t143 t144).bind fun t147 => (if t147 = true then ((fix_Fits.f a0).bind fun t148 => ((mezzotintref01_Fits.f a0).bind fun t149 => (if (t148 != t149) = true then (mezzotintlaw01_FixSums.j0 k l2 true) else (mezzotintlaw01_FixSums.j0 k l2 (decide ((l2.length : Int) > 10000)))))) else (mezzotintlaw01_FixSums.j0 k l2 true))) = some r := by rw [if_pos rfl] at H; exact H
        clear H
        have H := H1
        clear H1
        replace H := Option.bind_eq_some_iff.mp H
        obtain ⟨t147, A150, H⟩ := H
        replace H : (if t147 = true then ((fix_Fits.f a0).bind fun t148 => ((mezzotintref01_Fits.f a0).bind fun t149 => (if (t148 != t149) = true then (mezzotintlaw01_FixSums.j0 k l2 true) else (mezzotintlaw01_FixSums.j0 k l2 (decide ((l2.length : Int) > 10000)))))) else (mezzotintlaw01_FixSums.j0 k l2 true)) = some r := H
        have A15 := Aside0.mk A150
        clear A150
        by_cases c16 : t147 = true
        · subst c16
          have H1 : ((fix_Fits.f a0).bind fun t148 => ((mezzotintref01_Fits.f a0).bind fun t149 => (if (t148 != t149) = true then (mezzotintlaw01_FixSums.j0 k l2 true) else (mezzotintlaw01_FixSums.j0 k l2 (decide ((l2.length : Int) > 10000)))))) = some r := by rw [if_pos rfl] at H; exact H
          clear H
          have H := H1
          clear H1
          replace H := Option.bind_eq_some_iff.mp H
          obtain ⟨t148, A170, H⟩ := H
          replace H : ((mezzotintref01_Fits.f a0).bind fun t149 => (if (t148 != t149) = true then (mezzotintlaw01_FixSums.j0 k l2 true) else (mezzotintlaw01_FixSums.j0 k l2 (decide ((l2.length : Int) > 10000))))) = some r := H
          have A17 := Aside0.mk A170
          clear A170
          replace H := Option.bind_eq_some_iff.mp H
          obtain ⟨t149, A180, H⟩ := H
          replace H : (if (t148 != t149) = true then (mezzotintlaw01_FixSums.j0 k l2 true) else (mezzotintlaw01_FixSums.j0 k l2 (decide ((l2.length : Int) > 10000)))) = some r := H
          have A18 := Aside0.mk A180
          clear A180
          by_cases c19 : (t148 != t149) = true
          · rw [if_pos c19] at H
            have c19b0 : (t148 != t149) = true := c19
            (try (have c19b1 : decide (t148 = t149) = false := by simpa using c19))
            (try (have c19b2 : (t148 == t149) = false := by simpa using c19))
            (try (have c19b3 : ¬ (t148 = t149) := by simpa using c19))
            clear c19
            (first | rw [c19b0] | (simp only [i64_w, i32_w]; rw [c19b0]) | skip)
            have H' := Aside0.mk H
            clear H
            go_wp2_with (first | ((with_reducible refine gate_callee (f := 14) rfl ?_); refine goesL_ (some 44) rfl rfl Try.func14 (by kernel_rfl) rfl #[] rfl (by (try simp only [List.map_toArray, List.map_cons, List.map_nil]); first | done | rfl | (simp only [List.length_drop, List.length_take]; rfl)) ?_; (with_reducible refine (mezzotintlaw01_answers.calls k  true _ A11.out).mono ?_); rintro e w20 ⟨rfl, hb⟩; refine ⟨_, rfl, ?_⟩; have n0_ := Aside0.mk (below_step (by repeat (first | (with_reducible first | exact HB.out | apply below_alloc | apply pw_below_drewN | apply below_drew1) | exact HB.out)) hb); clear HB; have HB := n0_; clear n0_; (try clear hb); (try clear hb2); (try clear hk); (try clear hi)) | (go_at_call 15; (with_reducible refine (mezzotintlaw01_same.calls t137 t138 t139 t140 true _ A13.out).mono ?_); rintro e w' ⟨rfl, ⟨nd, rfl⟩⟩) | (go_at_call 15; (with_reducible refine (mezzotintlaw01_same.calls t141 t142 t143 t144 true _ A15.out).mono ?_); rintro e w' ⟨rfl, ⟨nd, rfl⟩⟩) | (go_at_call 23; (with_reducible refine (fix_Fits.calls a0 t148 _ A17.out).mono ?_); rintro e w' ⟨rfl, ⟨nd, rfl⟩⟩) | (go_at_call 16; (with_reducible refine (mezzotintref01_Fits.calls a0 t149 _ A18.out).mono ?_); rintro e w' ⟨rfl, ⟨nd, rfl⟩⟩))
            go_meet
            case rel => exact ⟨_, (true), (by first | rfl | (simp; done) | (simp [*]; done)), H', ⟨by first | omega | exact Nat.le_refl _⟩, ⟨by repeat (first | (with_reducible first | exact HB.out | apply below_alloc | apply pw_below_drewN | apply below_drew1) | exact HB.out)⟩⟩
          · rw [if_neg c19] at H
            have c19b0 : (t148 != t149) = false := by simpa using c19
            (try (have c19b1 : decide (t148 = t149) = true := by simpa using c19))
            (try (have c19b2 : (t148 == t149) = true := by simpa using c19))
            clear c19
            (first | rw [c19b0] | (simp only [i64_w, i32_w]; rw [c19b0]) | skip)
            have H' := Aside0.mk H
            clear H
            go_wp2_with (first | ((with_reducible refine gate_callee (f := 14) rfl ?_); refine goesL_ (some 44) rfl rfl Try.func14 (by kernel_rfl) rfl #[] rfl (by (try simp only [List.map_toArray, List.map_cons, List.map_nil]); first | done | rfl | (simp only [List.length_drop, List.length_take]; rfl)) ?_; (with_reducible refine (mezzotintlaw01_answers.calls k  true _ A11.out).mono ?_); rintro e w21 ⟨rfl, hb⟩; refine ⟨_, rfl, ?_⟩; have n0_ := Aside0.mk (below_step (by repeat (first | (with_reducible first | exact HB.out | apply below_alloc | apply pw_below_drewN | apply below_drew1) | exact HB.out)) hb); clear HB; have HB := n0_; clear n0_; (try clear hb); (try clear hb2); (try clear hk); (try clear hi)) | (go_at_call 15; (with_reducible refine (mezzotintlaw01_same.calls t137 t138 t139 t140 true _ A13.out).mono ?_); rintro e w' ⟨rfl, ⟨nd, rfl⟩⟩) | (go_at_call 15; (with_reducible refine (mezzotintlaw01_same.calls t141 t142 t143 t144 true _ A15.out).mono ?_); rintro e w' ⟨rfl, ⟨nd, rfl⟩⟩) | (go_at_call 23; (with_reducible refine (fix_Fits.calls a0 t148 _ A17.out).mono ?_); rintro e w' ⟨rfl, ⟨nd, rfl⟩⟩) | (go_at_call 16; (with_reducible refine (mezzotintref01_Fits.calls a0 t149 _ A18.out).mono ?_); rintro e w' ⟨rfl, ⟨nd, rfl⟩⟩))
            go_meet
            case rel => exact ⟨_, (decide ((l2.length : Int) > 10000)), (by first | rfl | (simp; done) | (simp [*]; done)), H', ⟨by first | omega | exact Nat.le_refl _⟩, ⟨by repeat (first | (with_reducible first | exact HB.out | apply below_alloc | apply pw_below_drewN | apply below_drew1) | exact HB.out)⟩⟩
        · replace c16 := Bool.eq_false_iff.mpr c16
          subst c16
          have H1 : (mezzotintlaw01_FixSums.j0 k l2 true) = some r := by rw [if_neg (show ¬ (false = true) by decide)] at H; exact H
          clear H
          have H := H1
          clear H1
          have H' := Aside0.mk H
          clear H
          go_wp2_with (first | ((with_reducible refine gate_callee (f := 14) rfl ?_); refine goesL_ (some 44) rfl rfl Try.func14 (by kernel_rfl) rfl #[] rfl (by (try simp only [List.map_toArray, List.map_cons, List.map_nil]); first | done | rfl | (simp only [List.length_drop, List.length_take]; rfl)) ?_; (with_reducible refine (mezzotintlaw01_answers.calls k  true _ A11.out).mono ?_); rintro e w22 ⟨rfl, hb⟩; refine ⟨_, rfl, ?_⟩; have n0_ := Aside0.mk (below_step (by repeat (first | (with_reducible first | exact HB.out | apply below_alloc | apply pw_below_drewN | apply below_drew1) | exact HB.out)) hb); clear HB; have HB := n0_; clear n0_; (try clear hb); (try clear hb2); (try clear hk); (try clear hi)) | (go_at_call 15; (with_reducible refine (mezzotintlaw01_same.calls t137 t138 t139 t140 true _ A13.out).mono ?_); rintro e w' ⟨rfl, ⟨nd, rfl⟩⟩) | (go_at_call 15; (with_reducible refine (mezzotintlaw01_same.calls t141 t142 t143 t144 false _ A15.out).mono ?_); rintro e w' ⟨rfl, ⟨nd, rfl⟩⟩))
          go_meet
          case rel => exact ⟨_, (true), (by first | rfl | (simp; done) | (simp [*]; done)), H', ⟨by first | omega | exact Nat.le_refl _⟩, ⟨by repeat (first | (with_reducible first | exact HB.out | apply below_alloc | apply pw_below_drewN | apply below_drew1) | exact HB.out)⟩⟩
      · replace c14 := Bool.eq_false_iff.mpr c14
        subst c14
        have H1 : (mezzotintlaw01_FixSums.j0 k l2 true) = some r := by rw [if_neg (show ¬ (false = true) by decide)] at H; exact H
        clear H
        have H := H1
        clear H1
        have H' := Aside0.mk H
        clear H
        go_wp2_with (first | ((with_reducible refine gate_callee (f := 14) rfl ?_); refine goesL_ (some 44) rfl rfl Try.func14 (by kernel_rfl) rfl #[] rfl (by (try simp only [List.map_toArray, List.map_cons, List.map_nil]); first | done | rfl | (simp only [List.length_drop, List.length_take]; rfl)) ?_; (with_reducible refine (mezzotintlaw01_answers.calls k  true _ A11.out).mono ?_); rintro e w23 ⟨rfl, hb⟩; refine ⟨_, rfl, ?_⟩; have n0_ := Aside0.mk (below_step (by repeat (first | (with_reducible first | exact HB.out | apply below_alloc | apply pw_below_drewN | apply below_drew1) | exact HB.out)) hb); clear HB; have HB := n0_; clear n0_; (try clear hb); (try clear hb2); (try clear hk); (try clear hi)) | (go_at_call 15; (with_reducible refine (mezzotintlaw01_same.calls t137 t138 t139 t140 false _ A13.out).mono ?_); rintro e w' ⟨rfl, ⟨nd, rfl⟩⟩))
        go_meet
        case rel => exact ⟨_, (true), (by first | rfl | (simp; done) | (simp [*]; done)), H', ⟨by first | omega | exact Nat.le_refl _⟩, ⟨by repeat (first | (with_reducible first | exact HB.out | apply below_alloc | apply pw_below_drewN | apply below_drew1) | exact HB.out)⟩⟩
    · replace c12 := Bool.eq_false_iff.mpr c12
      subst c12
      have H1 : (mezzotintlaw01_FixSums.j0 k l2 true) = some r := by rw [if_neg (show ¬ (false = true) by decide)] at H; exact H
      clear H
      have H := H1
      clear H1
      have H' := Aside0.mk H
      clear H
      go_wp2_with (first | ((with_reducible refine gate_callee (f := 14) rfl ?_); refine goesL_ (some 44) rfl rfl Try.func14 (by kernel_rfl) rfl #[] rfl (by (try simp only [List.map_toArray, List.map_cons, List.map_nil]); first | done | rfl | (simp only [List.length_drop, List.length_take]; rfl)) ?_; (with_reducible refine (mezzotintlaw01_answers.calls k  false _ A11.out).mono ?_); rintro e w24 ⟨rfl, hb⟩; refine ⟨_, rfl, ?_⟩; have n0_ := Aside0.mk (below_step (by repeat (first | (with_reducible first | exact HB.out | apply below_alloc | apply pw_below_drewN | apply below_drew1) | exact HB.out)) hb); clear HB; have HB := n0_; clear n0_; (try clear hb); (try clear hb2); (try clear hk); (try clear hi)))
      go_meet
      case rel => exact ⟨_, (true), (by first | rfl | (simp; done) | (simp [*]; done)), H', ⟨by first | omega | exact Nat.le_refl _⟩, ⟨by repeat (first | (with_reducible first | exact HB.out | apply below_alloc | apply pw_below_drewN | apply below_drew1) | exact HB.out)⟩⟩
  case rest =>
    clear HC8
    try clear c1
    try clear c2
    try clear p2
    try clear c7
    try clear c12
    try clear c14
    try clear c16
    try clear c19
    try clear c19b0
    try clear c19b1
    try clear c19b2
    try clear c20
    try clear c21
    try clear c22
    obtain ⟨kq, x73_7, rfl, HA, HJ7, HB⟩ := hcut
    cases kq with
    | zero => exact absurd HA.out (by simp [mezzotintlaw01_FixSums.j0])
    | succ kj7 =>
      have H := HA.out
      clear HA
      simp only [mezzotintlaw01_FixSums.j0] at H
      by_cases c25 : x73_7 = true
      · subst c25
        have H1 : ((mezzotintlaw01_answers.f kj7).bind fun t150 => (if t150 = true then (some (decide ((l2.length : Int) > 10000))) else (some false))) = some r := by rw [if_pos rfl] at H; exact H
        clear H
        have H := H1
        clear H1
        replace H := Option.bind_eq_some_iff.mp H
        obtain ⟨t150, A260, H⟩ := H
        replace H : (if t150 = true then (some (decide ((l2.length : Int) > 10000))) else (some false)) = some r := H
        have A26 := Aside0.mk A260
        clear A260
        by_cases c27 : t150 = true
        · subst c27
          have H1 : (some (decide ((l2.length : Int) > 10000))) = some r := by rw [if_pos rfl] at H; exact H
          clear H
          have H := H1
          clear H1
          obtain rfl := Option.some.inj H
          go_wp2_with (first | ((with_reducible refine gate_callee (f := 14) rfl ?_); refine goesL_ (some 74) rfl rfl Try.func14 (by kernel_rfl) rfl #[] rfl (by (try simp only [List.map_toArray, List.map_cons, List.map_nil]); first | done | rfl | (simp only [List.length_drop, List.length_take]; rfl)) ?_; (with_reducible refine (mezzotintlaw01_answers.calls kj7  true _ A26.out).mono ?_); rintro e w28 ⟨rfl, hb⟩; refine ⟨_, rfl, ?_⟩; have n0_ := Aside0.mk (below_step (by repeat (first | (with_reducible first | exact HB.out | apply below_alloc | apply pw_below_drewN | apply below_drew1) | exact HB.out)) hb); clear HB; have HB := n0_; clear n0_; (try clear hb); (try clear hb2); (try clear hk); (try clear hi)))
          go_ret
          exact ⟨by first | rfl | (simp [errW_none, errW_some] <;> rfl) | (simp [*, errW_none, errW_some] <;> rfl), by repeat (first | (with_reducible first | exact HB.out | apply below_alloc | apply pw_below_drewN | apply below_drew1) | exact HB.out)⟩
        · replace c27 := Bool.eq_false_iff.mpr c27
          subst c27
          have H1 : (some false) = some r := by rw [if_neg (show ¬ (false = true) by decide)] at H; exact H
          clear H
          have H := H1
          clear H1
          obtain rfl := Option.some.inj H
          go_wp2_with (first | ((with_reducible refine gate_callee (f := 14) rfl ?_); refine goesL_ (some 74) rfl rfl Try.func14 (by kernel_rfl) rfl #[] rfl (by (try simp only [List.map_toArray, List.map_cons, List.map_nil]); first | done | rfl | (simp only [List.length_drop, List.length_take]; rfl)) ?_; (with_reducible refine (mezzotintlaw01_answers.calls kj7  false _ A26.out).mono ?_); rintro e w29 ⟨rfl, hb⟩; refine ⟨_, rfl, ?_⟩; have n0_ := Aside0.mk (below_step (by repeat (first | (with_reducible first | exact HB.out | apply below_alloc | apply pw_below_drewN | apply below_drew1) | exact HB.out)) hb); clear HB; have HB := n0_; clear n0_; (try clear hb); (try clear hb2); (try clear hk); (try clear hi)))
          go_ret
          exact ⟨by first | rfl | (simp [errW_none, errW_some] <;> rfl) | (simp [*, errW_none, errW_some] <;> rfl), by repeat (first | (with_reducible first | exact HB.out | apply below_alloc | apply pw_below_drewN | apply below_drew1) | exact HB.out)⟩
      · replace c25 := Bool.eq_false_iff.mpr c25
        subst c25
        have H1 : (mezzotintlaw01_FixSums.l0 kj7 l2 0 0 0) = some r := by rw [if_neg (show ¬ (false = true) by decide)] at H; exact H
        clear H
        have H := H1
        clear H1
        have HC30 := Aside0.mk H
        clear H
        go_upto_block 0 with (fail)
        go_cut [15, 16] (fun v15 v16 wc => ∃ (kq : Nat) (x15_29 : Int) (x16_29 : Int), v15 = .int .i64 x15_29 ∧ v16 = .int .i64 x16_29 ∧ Aside0 (mezzotintlaw01_FixSums.j2 kq l2 x15_29 x16_29 = some r) ∧ Aside0 (kq ≤ kj7) ∧ Aside0 (Below w.heap.size w wc))
        case first =>
          have H := HC30.out
          clear HC30
          have H' := Aside0.mk H
          clear H
          go_wp2
          go_loopg [15, 16, 17] kj7 (fun kq v15 v16 v17 w' => ∃ (x15_2 : Int) (x16_2 : Int) (x17_2 : Int), v15 = .int .i64 x15_2 ∧ v16 = .int .i64 x16_2 ∧ v17 = .int .i64 x17_2 ∧ Aside0 (mezzotintlaw01_FixSums.l0 kq l2 x15_2 x16_2 x17_2 = some r) ∧ Aside0 (kq ≤ kj7) ∧ Aside0 (Below w.heap.size w w'))
          case atStart => exact ⟨(0), (0), (0), (by first | rfl | (simp; done) | (simp [*]; done)), (by first | rfl | (simp; done) | (simp [*]; done)), (by first | rfl | (simp; done) | (simp [*]; done)), H', ⟨Nat.le_refl _⟩, ⟨by repeat (first | (with_reducible first | exact HB.out | apply below_alloc | apply pw_below_drewN | apply below_drew1) | exact HB.out)⟩⟩
          case round =>
            clear H'
            try clear c1
            try clear c2
            try clear p2
            try clear c7
            try clear c12
            try clear c14
            try clear c16
            try clear c19
            try clear c19b0
            try clear c19b1
            try clear c19b2
            try clear c20
            try clear c21
            try clear c22
            try clear c25
            try clear c27
            try clear p2
            obtain ⟨x15_2, x16_2, x17_2, rfl, rfl, rfl, HA, HK2, HB⟩ := hrel
            cases gk with
            | zero => exact absurd HA.out (by simp [mezzotintlaw01_FixSums.l0])
            | succ k2 =>
              have H := HA.out
              clear HA
              simp only [mezzotintlaw01_FixSums.l0] at H
              by_cases c31 : x17_2 < (l2.length : Int)
              · rw [if_pos c31] at H
                have c31b0 : decide (x17_2 < (l2.length : Int)) = true := decide_eq_true c31
                clear c31
                (first | rw [c31b0] | (simp only [i64_w, i32_w]; rw [c31b0]) | skip)
                by_cases c32 : x16_2 = 0
                · rw [if_pos c32] at H
                  have c32b0 : (x16_2 == 0) = true := beq_iff_eq.mpr c32
                  have c32b1 : (x16_2 != 0) = false := bne_eq_false_iff_eq.mpr c32
                  clear c32
                  by_cases c33 : 0 ≤ x17_2
                  · rw [if_pos c33] at H
                    have c33b0 : decide (0 ≤ x17_2) = true := decide_eq_true c33
                    clear c33
                    replace H := Option.bind_eq_some_iff.mp H
                    obtain ⟨⟨t152, t153⟩, A340, H⟩ := H
                    replace H : (mezzotintlaw01_FixSums.l0 k2 l2 t152 t153 (wrap64 (x17_2 + 1))) = some r := H
                    have A34 := Aside0.mk A340
                    clear A340
                    have H' := Aside0.mk H
                    clear H
                    have p151 : 0 ≤ (x17_2 : Int) := of_decide_eq_true (by first | (with_reducible assumption) | assumption)
                    have q151 : x17_2 < (l2.length : Int) := of_decide_eq_true (by first | (with_reducible assumption) | assumption)
                    obtain ⟨ad151, e151, hx151_0⟩ := Kd.at_int HR2.out x17_2 p151 q151
                    cases e151
                    replace hx151_0 := (HB.out.cell (World.block_lt_of_cell? w _ hx151_0)).trans hx151_0
                    replace p151 := eq_true p151
                    replace q151 := eq_true q151
                    go_wp2_with (first | ((with_reducible refine gate_callee (f := 21) rfl ?_); refine goesL_ (some 96) rfl rfl Try.func21 (by kernel_rfl) rfl #[.int .i64 x15_2, .int .i64 (rd l2 x17_2)] rfl (by (try simp only [List.map_toArray, List.map_cons, List.map_nil]); first | done | rfl | (simp only [List.length_drop, List.length_take]; rfl)) ?_; (with_reducible refine (mezzotintref01_Add.calls x15_2 (rd l2 x17_2) t152 t153 _ A34.out).mono ?_); rintro e w' ⟨rfl, ⟨nd, rfl⟩⟩; refine ⟨_, rfl, ?_⟩))
                    go_roundg k2
                    case measure => have := HJ7.out; have := HK2.out; omega
                    case rel => exact ⟨(t152), (t153), (wrap64 (x17_2 + 1)), (by first | rfl | (simp; done) | (simp [*]; done)), (by first | rfl | (simp; done) | (simp [*]; done)), (by first | rfl | (simp; done) | (simp [*]; done)), H', ⟨by have := HJ7.out; have := HK2.out; omega⟩, ⟨by repeat (first | (with_reducible first | exact HB.out | apply below_alloc | apply pw_below_drewN | apply below_drew1) | exact HB.out)⟩⟩
                  · rw [if_neg c33] at H
                    exact absurd H (by simp)
                · rw [if_neg c32] at H
                  have c32b0 : (x16_2 == 0) = false := beq_eq_false_iff_ne.mpr c32
                  have c32b1 : (x16_2 != 0) = true := bne_iff_ne.mpr c32
                  have H' := Aside0.mk H
                  clear H
                  go_wp2
                  go_meet
                  case rel => exact ⟨_, (x15_2), (x16_2), (by first | rfl | (simp; done) | (simp [*]; done)), (by first | rfl | (simp; done) | (simp [*]; done)), H', ⟨by have := HJ7.out; have := HK2.out; first | omega | exact Nat.le_refl _⟩, ⟨by repeat (first | (with_reducible first | exact HB.out | apply below_alloc | apply pw_below_drewN | apply below_drew1) | exact HB.out)⟩⟩
              · rw [if_neg c31] at H
                have c31b0 : decide (x17_2 < (l2.length : Int)) = false := decide_eq_false c31
                clear c31
                (first | rw [c31b0] | (simp only [i64_w, i32_w]; rw [c31b0]) | skip)
                have H' := Aside0.mk H
                clear H
                go_wp2
                go_meet
                case rel => exact ⟨_, (x15_2), (x16_2), (by first | rfl | (simp; done) | (simp [*]; done)), (by first | rfl | (simp; done) | (simp [*]; done)), H', ⟨by have := HJ7.out; have := HK2.out; first | omega | exact Nat.le_refl _⟩, ⟨by repeat (first | (with_reducible first | exact HB.out | apply below_alloc | apply pw_below_drewN | apply below_drew1) | exact HB.out)⟩⟩
        case rest =>
          clear HC30
          try clear c1
          try clear p1
          try clear q1
          try clear hx1
          try clear c2
          try clear p2
          try clear c3
          try clear p6
          try clear c7
          try clear c12
          try clear c14
          try clear p15
          try clear q15
          try clear hx15
          try clear c16
          try clear c19
          try clear c19b0
          try clear c19b1
          try clear c19b2
          try clear c20
          try clear c21
          try clear c22
          try clear c25
          try clear c27
          try clear c31
          try clear c31b0
          try clear c32
          try clear c32b0
          try clear c32b1
          try clear c33
          try clear c33b0
          try clear hx151_0
          try clear p151
          try clear p2
          try clear q151
          obtain ⟨kq, x15_29, x16_29, rfl, rfl, HA, HJ29, HB⟩ := hcut
          cases kq with
          | zero => exact absurd HA.out (by simp [mezzotintlaw01_FixSums.j2])
          | succ kj29 =>
            have H := HA.out
            clear HA
            simp only [mezzotintlaw01_FixSums.j2] at H
            by_cases c35 : x16_29 = 0
            · rw [if_pos c35] at H
              have c35b0 : (x16_29 == 0) = true := beq_iff_eq.mpr c35
              have c35b1 : (x16_29 != 0) = false := bne_eq_false_iff_eq.mpr c35
              clear c35
              obtain ⟨y154, hy154⟩ : ∃ y_ : List Int, y_ = (([] : List Int)) := ⟨_, rfl⟩
              replace H : (if y154.length + l2.length < 17592186044416 then ((fix_Sum.f kj29 (y154 ++ l2)).bind fun bt160 => ((mezzotintlaw01_same.f bt160.1 bt160.2 x15_29 x16_29).bind fun t162 => (some t162))) else (none)) = some r := by first | (rw [hy154]; with_reducible exact H) | (have H2_ := (Option.bind_some _ _).symm.trans H; rw [hy154]; with_reducible exact H2_) | (have H2_ := (Option.bind_some _ _).symm.trans H; with_reducible exact H2_) | with_reducible exact H | (rw [hy154]; exact H) | exact H
              have Ny154 := Aside0.mk hy154
              clear hy154
              by_cases c36 : y154.length + l2.length < 17592186044416
              · rw [if_pos c36] at H
                have LMc36 := Aside0.mk c36
                clear c36
                obtain ⟨y157, hy157⟩ : ∃ y_ : List Int, y_ = (y154 ++ l2) := ⟨_, rfl⟩
                replace H : ((fix_Sum.f kj29 y157).bind fun bt160 => ((mezzotintlaw01_same.f bt160.1 bt160.2 x15_29 x16_29).bind fun t162 => (some t162))) = some r := by first | (rw [hy157]; with_reducible exact H) | (have H2_ := (Option.bind_some _ _).symm.trans H; rw [hy157]; with_reducible exact H2_) | (have H2_ := (Option.bind_some _ _).symm.trans H; with_reducible exact H2_) | with_reducible exact H | (rw [hy157]; exact H) | exact H
                have Ny157 := Aside0.mk hy157
                clear hy157
                replace H := Option.bind_eq_some_iff.mp H
                obtain ⟨⟨t160, t161⟩, A370, H⟩ := H
                replace H : ((mezzotintlaw01_same.f t160 t161 x15_29 x16_29).bind fun t162 => (some t162)) = some r := H
                have A37 := Aside0.mk A370
                clear A370
                replace H := Option.bind_eq_some_iff.mp H
                obtain ⟨t162, A380, H⟩ := H
                replace H : (some t162) = some r := H
                have A38 := Aside0.mk A380
                clear A380
                obtain rfl := Option.some.inj H
                go_wp2_with (first | ((with_reducible refine gate_dst (N := 102) rfl ?_); (try (refine gate_guard (by rfl) ?_; dsimp only)); refine Kd.R_lit (Kd.int .i64) _ 3 ?hg (N := 102) ?hd (xs := ([] : List Int)) (inner := []) (ok := fun _ => True) (okp := fun _ => True) ?hr ?hp (fun _ hk => hk) trivial (Below.refl _ _) (Nat.le_refl _) (by simp) ?_; (case hd => rfl); (case hg => rfl); (case hr => first | (go_simp; done) | (go_simp; rfl)); (case hp => exact (Reps.none _ _)); intro v155 w39 ho40 hb hg_ hnew_; clear hg_ hnew_; (first | rw [← Ny154.out] at ho40 | (simp only [Int.reduceToNat] at ho40; rw [← Ny154.out] at ho40)); have n0_ := Aside0.mk (Kd.R_lower ho40 (below_size (by repeat (first | (with_reducible first | exact HB.out | apply below_alloc | apply pw_below_drewN | apply below_drew1) | exact HB.out)))); have n1_ := Aside0.mk (below_step (by repeat (first | (with_reducible first | exact HB.out | apply below_alloc | apply pw_below_drewN | apply below_drew1) | exact HB.out)) hb); clear HB; have HO156 := n0_; have HB := n1_; clear n0_ n1_; clear hb ho40) | ((with_reducible refine gate_builtin (b := .append) (xs := #[.tmp 102, .tmp 103]) rfl ?_); (try (refine gate_guard (by rfl) ?_; dsimp only)); at_builtin; refine Kd.R_append_rows (Kd.int .i64) (w0 := w) w.heap.size rfl (.tmp 102) (.tmp 103) 31 3 (.int .i64 0) 8 rfl Try.underlying31 info3 rfl (by decide) (by omega) v155 y154 l2 _ _ _ (fun _ => True) (fun _ => False) rfl rfl ?aO ?aR (fun _ _ h => h) (fun _ h => h.elim) ?aF ?aB ?aS ?aL ?_; (case aR => repeat (first | exact (Kd.C_below HR2.out HB.out) | (with_reducible refine Kd.C_alloc ?_ _) | (with_reducible refine Kd.C_drewN ?_ _) | (with_reducible refine Kd.C_drew ?_))); (case aB => exact (by repeat (first | (with_reducible first | exact HB.out | apply below_alloc | apply pw_below_drewN | apply below_drew1) | exact HB.out))); (case aF => exact (fun _ _ => trivial)); (case aO => exact (by (with_reducible repeat (first | apply Kd.R_alloc | apply Kd.R_drewN | apply Kd.R_drew)); exact HO156.out)); (case aS => exact (below_size (by repeat (first | (with_reducible first | exact HB.out | apply below_alloc | apply pw_below_drewN | apply below_drew1) | exact HB.out)))); (case aL => have := LMc36.out; omega); intro v158 w41 ho hb hg hat; rw [← Ny157.out] at ho; have n0_ := Aside0.mk (hb); have n1_ := Aside0.mk (ho); clear HB; clear HO156; have HB := n0_; have HO159 := n1_; clear n0_ n1_; clear ho hb hg hat; obtain ⟨Ao42, co42, eo42⟩ := Kd.R_slice HO159.out; subst eo42) | ((with_reducible refine gate_callee (f := 24) rfl ?_); refine goesL_ (some 105) rfl rfl Try.func24 (by kernel_rfl) rfl #[.slice Ao42 y157.length co42] rfl (by (try simp only [List.map_toArray, List.map_cons, List.map_nil]); first | done | rfl | (simp only [List.length_drop, List.length_take]; rfl)) ?_; (with_reducible refine (fix_Sum.calls kj29 _ _ y157 t160 t161 _ ?side1 ?side2 A37.out).mono ?_); (case side1 => repeat (first | exact (Kd.R_reads' HO159.out).2.2 | (with_reducible refine Kd.C_alloc ?_ _) | (with_reducible refine Kd.C_drewN ?_ _) | (with_reducible refine Kd.C_drew ?_))); (case side2 => exact (Kd.R_reads' HO159.out).2.1); rintro e w43 ⟨rfl, hb⟩; refine ⟨_, rfl, ?_⟩; have n0_ := Aside0.mk (Kd.R_below (by (with_reducible repeat (first | apply Kd.R_alloc | apply Kd.R_drewN | apply Kd.R_drew)); exact HO159.out) hb); have n1_ := Aside0.mk (below_step (by repeat (first | (with_reducible first | exact HB.out | apply below_alloc | apply pw_below_drewN | apply below_drew1) | exact HB.out)) hb); clear HO159; clear HB; have HO159 := n0_; have HB := n1_; clear n0_ n1_; (try clear hb); (try clear hb2); (try clear hk); (try clear hi)) | ((with_reducible refine gate_callee (f := 15) rfl ?_); refine goesL_ (some 112) rfl rfl Try.func15 (by kernel_rfl) rfl #[.int .i64 t160, .int .i64 t161, .int .i64 x15_29, .int .i64 x16_29] rfl (by (try simp only [List.map_toArray, List.map_cons, List.map_nil]); first | done | rfl | (simp only [List.length_drop, List.length_take]; rfl)) ?_; (with_reducible refine (mezzotintlaw01_same.calls t160 t161 x15_29 x16_29 t162 _ A38.out).mono ?_); rintro e w' ⟨rfl, ⟨nd, rfl⟩⟩; refine ⟨_, rfl, ?_⟩))
                go_ret
                exact ⟨by first | rfl | (simp [errW_none, errW_some] <;> rfl) | (simp [*, errW_none, errW_some] <;> rfl), by repeat (first | (with_reducible first | exact HB.out | apply below_alloc | apply pw_below_drewN | apply below_drew1) | exact HB.out)⟩
              · rw [if_neg c36] at H
                exact absurd H (by simp)
            · rw [if_neg c35] at H
              have c35b0 : (x16_29 == 0) = false := beq_eq_false_iff_ne.mpr c35
              have c35b1 : (x16_29 != 0) = true := bne_iff_ne.mpr c35
              obtain ⟨y163, hy163⟩ : ∃ y_ : List Int, y_ = (([] : List Int)) := ⟨_, rfl⟩
              replace H : (if y163.length + l2.length < 17592186044416 then ((fix_Sum.f kj29 (y163 ++ l2)).bind fun bt169 => ((mezzotintlaw01_same.f bt169.1 bt169.2 0 x16_29).bind fun t171 => (some t171))) else (none)) = some r := by first | (rw [hy163]; with_reducible exact H) | (have H2_ := (Option.bind_some _ _).symm.trans H; rw [hy163]; with_reducible exact H2_) | (have H2_ := (Option.bind_some _ _).symm.trans H; with_reducible exact H2_) | with_reducible exact H | (rw [hy163]; exact H) | exact H
              have Ny163 := Aside0.mk hy163
              clear hy163
              by_cases c44 : y163.length + l2.length < 17592186044416
              · rw [if_pos c44] at H
                have LMc44 := Aside0.mk c44
                clear c44
                obtain ⟨y166, hy166⟩ : ∃ y_ : List Int, y_ = (y163 ++ l2) := ⟨_, rfl⟩
                replace H : ((fix_Sum.f kj29 y166).bind fun bt169 => ((mezzotintlaw01_same.f bt169.1 bt169.2 0 x16_29).bind fun t171 => (some t171))) = some r := by first | (rw [hy166]; with_reducible exact H) | (have H2_ := (Option.bind_some _ _).symm.trans H; rw [hy166]; with_reducible exact H2_) | (have H2_ := (Option.bind_some _ _).symm.trans H; with_reducible exact H2_) | with_reducible exact H | (rw [hy166]; exact H) | exact H
                have Ny166 := Aside0.mk hy166
                clear hy166
                replace H := Option.bind_eq_some_iff.mp H
                obtain ⟨⟨t169, t170⟩, A450, H⟩ := H
                replace H : ((mezzotintlaw01_same.f t169 t170 0 x16_29).bind fun t171 => (some t171)) = some r := H
                have A45 := Aside0.mk A450
                clear A450
                replace H := Option.bind_eq_some_iff.mp H
                obtain ⟨t171, A460, H⟩ := H
                replace H : (some t171) = some r := H
                have A46 := Aside0.mk A460
                clear A460
                obtain rfl := Option.some.inj H
                go_wp2_with (first | ((with_reducible refine gate_dst (N := 102) rfl ?_); (try (refine gate_guard (by rfl) ?_; dsimp only)); refine Kd.R_lit (Kd.int .i64) _ 3 ?hg (N := 102) ?hd (xs := ([] : List Int)) (inner := []) (ok := fun _ => True) (okp := fun _ => True) ?hr ?hp (fun _ hk => hk) trivial (Below.refl _ _) (Nat.le_refl _) (by simp) ?_; (case hd => rfl); (case hg => rfl); (case hr => first | (go_simp; done) | (go_simp; rfl)); (case hp => exact (Reps.none _ _)); intro v164 w47 ho48 hb hg_ hnew_; clear hg_ hnew_; (first | rw [← Ny163.out] at ho48 | (simp only [Int.reduceToNat] at ho48; rw [← Ny163.out] at ho48)); have n0_ := Aside0.mk (Kd.R_lower ho48 (below_size (by repeat (first | (with_reducible first | exact HB.out | apply below_alloc | apply pw_below_drewN | apply below_drew1) | exact HB.out)))); have n1_ := Aside0.mk (below_step (by repeat (first | (with_reducible first | exact HB.out | apply below_alloc | apply pw_below_drewN | apply below_drew1) | exact HB.out)) hb); clear HB; have HO165 := n0_; have HB := n1_; clear n0_ n1_; clear hb ho48) | ((with_reducible refine gate_builtin (b := .append) (xs := #[.tmp 102, .tmp 103]) rfl ?_); (try (refine gate_guard (by rfl) ?_; dsimp only)); at_builtin; refine Kd.R_append_rows (Kd.int .i64) (w0 := w) w.heap.size rfl (.tmp 102) (.tmp 103) 31 3 (.int .i64 0) 8 rfl Try.underlying31 info3 rfl (by decide) (by omega) v164 y163 l2 _ _ _ (fun _ => True) (fun _ => False) rfl rfl ?aO ?aR (fun _ _ h => h) (fun _ h => h.elim) ?aF ?aB ?aS ?aL ?_; (case aR => repeat (first | exact (Kd.C_below HR2.out HB.out) | (with_reducible refine Kd.C_alloc ?_ _) | (with_reducible refine Kd.C_drewN ?_ _) | (with_reducible refine Kd.C_drew ?_))); (case aB => exact (by repeat (first | (with_reducible first | exact HB.out | apply below_alloc | apply pw_below_drewN | apply below_drew1) | exact HB.out))); (case aF => exact (fun _ _ => trivial)); (case aO => exact (by (with_reducible repeat (first | apply Kd.R_alloc | apply Kd.R_drewN | apply Kd.R_drew)); exact HO165.out)); (case aS => exact (below_size (by repeat (first | (with_reducible first | exact HB.out | apply below_alloc | apply pw_below_drewN | apply below_drew1) | exact HB.out)))); (case aL => have := LMc44.out; omega); intro v167 w49 ho hb hg hat; rw [← Ny166.out] at ho; have n0_ := Aside0.mk (hb); have n1_ := Aside0.mk (ho); clear HB; clear HO165; have HB := n0_; have HO168 := n1_; clear n0_ n1_; clear ho hb hg hat; obtain ⟨Ao50, co50, eo50⟩ := Kd.R_slice HO168.out; subst eo50) | ((with_reducible refine gate_callee (f := 24) rfl ?_); refine goesL_ (some 105) rfl rfl Try.func24 (by kernel_rfl) rfl #[.slice Ao50 y166.length co50] rfl (by (try simp only [List.map_toArray, List.map_cons, List.map_nil]); first | done | rfl | (simp only [List.length_drop, List.length_take]; rfl)) ?_; (with_reducible refine (fix_Sum.calls kj29 _ _ y166 t169 t170 _ ?side1 ?side2 A45.out).mono ?_); (case side1 => repeat (first | exact (Kd.R_reads' HO168.out).2.2 | (with_reducible refine Kd.C_alloc ?_ _) | (with_reducible refine Kd.C_drewN ?_ _) | (with_reducible refine Kd.C_drew ?_))); (case side2 => exact (Kd.R_reads' HO168.out).2.1); rintro e w51 ⟨rfl, hb⟩; refine ⟨_, rfl, ?_⟩; have n0_ := Aside0.mk (Kd.R_below (by (with_reducible repeat (first | apply Kd.R_alloc | apply Kd.R_drewN | apply Kd.R_drew)); exact HO168.out) hb); have n1_ := Aside0.mk (below_step (by repeat (first | (with_reducible first | exact HB.out | apply below_alloc | apply pw_below_drewN | apply below_drew1) | exact HB.out)) hb); clear HO168; clear HB; have HO168 := n0_; have HB := n1_; clear n0_ n1_; (try clear hb); (try clear hb2); (try clear hk); (try clear hi)) | ((with_reducible refine gate_callee (f := 15) rfl ?_); refine goesL_ (some 112) rfl rfl Try.func15 (by kernel_rfl) rfl #[.int .i64 t169, .int .i64 t170, .int .i64 0, .int .i64 x16_29] rfl (by (try simp only [List.map_toArray, List.map_cons, List.map_nil]); first | done | rfl | (simp only [List.length_drop, List.length_take]; rfl)) ?_; (with_reducible refine (mezzotintlaw01_same.calls t169 t170 0 x16_29 t171 _ A46.out).mono ?_); rintro e w' ⟨rfl, ⟨nd, rfl⟩⟩; refine ⟨_, rfl, ?_⟩))
                go_ret
                exact ⟨by first | rfl | (simp [errW_none, errW_some] <;> rfl) | (simp [*, errW_none, errW_some] <;> rfl), by repeat (first | (with_reducible first | exact HB.out | apply below_alloc | apply pw_below_drewN | apply below_drew1) | exact HB.out)⟩
              · rw [if_neg c44] at H
                exact absurd H (by simp)

/-- THE ONE PURE STATEMENT of mezzotintlaw01_FixSums: yours. -/
def mezzotintlaw01_FixSums.Pure : Prop := ∀ (a0 : Int) (a1 : Int) (l2 : List Int), (Lit.int .i64 a0).wf = true → (Lit.int .i64 a1).wf = true → l2.length ≤ maxLen → l2.length * 8 ≤ 140737488351232 → (∀ x ∈ l2, (Lit.int .i64 x).wf = true) → ∃ k, mezzotintlaw01_FixSums.f k a0 a1 l2 = some true
theorem mezzotintlaw01_FixSums.walk (P : mezzotintlaw01_FixSums.Pure) (a0 : Int) (a1 : Int) (a2 : Option Addr) (len2 cap2 : Nat) (z2 : List Int) (w : World) (w0 : (Lit.int .i64 a0).wf = true) (w1 : (Lit.int .i64 a1).wf = true) (w2 : (a2 = none ∧ len2 = 0 ∧ cap2 = 0 ∧ z2 = []) ∨ ∃ x, a2 = some x ∧ len2 ≤ cap2 ∧ cap2 ≤ maxLen ∧ z2.length = cap2 ∧ (∀ i, i < z2.length → w.cell? (x.add i) = some (.int .i64 (z2.getD i 0))) ∧ ∀ n ∈ z2, (Lit.int .i64 n).wf = true) (y2 : len2 * 8 ≤ 140737488351232) :
    Calls Try.prog 7 #[.int .i64 a0, .int .i64 a1, .slice a2 len2 cap2] w fun e w' => e = .returned (.bool true) ∧ Below w.heap.size w w' := by
  obtain ⟨l2, rfl, hr2, hm2, hw2, hc2⟩ := ReadsInt.ofRowC w2
  obtain ⟨k, h⟩ := P a0 a1 l2 w0 w1 hm2 y2 hw2
  refine (mezzotintlaw01_FixSums.calls k a0 a1 _ _ l2 true w (Kd.C_of_reads (d := (0 : Int)) (h1 := fun _ => rfl) hr2) hc2 h).mono ?_
  rintro e w' ⟨rfl, hd⟩
  exact ⟨rfl, hd⟩

end Go.Proofs.Ytonchamkagadbaa.PFixSums
