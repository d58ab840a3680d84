-- PRINTED BY print.sh 35421559b90ae4d0a3588c463048766b98c2df88dd9212a6774a882060cdf62d: not written by this session
import Derived.Test.YtonchamkagadbaaPFixWholesx0
import Derived.Test.YtonchamkagadbaaPFixWholesx1
namespace Go.Proofs.Ytonchamkagadbaa.PFixWholes
open Go.RowKit Go.Proofs.YtonchamkagadbaaW.PrintWords Go.Proofs.YtonchamkagadbaaW.PrintLast Go.Proofs.YtonchamkagadbaaW.PrintMore
attribute [local go_sem] max2_int min2_int max_two min_two max_three min_three max_four min_four   -- for this text's walks alone
set_option linter.unusedVariables false
set_option linter.unusedSimpArgs false

/-! ### mezzotintref01_FromInt: function 32 -/
def mezzotintref01_FromInt.f (a0 : Int) : Option (Int × Int) := if a0 < (-32768) then (some (0, 11)) else (if a0 > 32767 then (some (0, 11)) else (some (wrap64 (a0 * 65536), 0)))
set_option maxHeartbeats 8000000 in
set_option maxRecDepth 100000 in
theorem mezzotintref01_FromInt.calls (a0 : Int) (r1 : Int) (r2 : Int) (w : World) (h : mezzotintref01_FromInt.f a0 = some (r1, r2)) :
    Calls Try.prog 32 #[.int .i64 a0] w fun e w' => e = .returned (.tuple #[.int .i64 r1, .int .i64 r2]) ∧ Drawn0 w w' := by
  have H : (if a0 < (-32768) then (some (0, 11)) else (if a0 > 32767 then (some (0, 11)) else (some (wrap64 (a0 * 65536), 0)))) = some (r1, r2) := h
  clear h
  by_cases c2 : a0 < (-32768)
  · rw [if_pos c2] at H
    have c2b0 : decide (a0 < (-32768)) = true := decide_eq_true c2
    clear c2
    simp only [Option.some.injEq, Prod.mk.injEq] at H
    obtain ⟨rfl, rfl⟩ := H
    go_enter Try.func32, Try.ntmps32
    go_wp2
    go_ret2
    exact ⟨by first | rfl | (simp; done) | (simp [*]; done), by repeat (first | exact Drawn0.refl _ | apply Drawn0.step)⟩
  · rw [if_neg c2] at H
    have c2b0 : decide (a0 < (-32768)) = false := decide_eq_false c2
    clear c2
    by_cases c3 : a0 > 32767
    · rw [if_pos c3] at H
      have c3b0 : decide (32767 < a0) = true := decide_eq_true c3
      clear c3
      simp only [Option.some.injEq, Prod.mk.injEq] at H
      obtain ⟨rfl, rfl⟩ := H
      go_enter Try.func32, Try.ntmps32
      go_wp2
      go_ret2
      exact ⟨by first | rfl | (simp; done) | (simp [*]; done), by repeat (first | exact Drawn0.refl _ | apply Drawn0.step)⟩
    · rw [if_neg c3] at H
      have c3b0 : decide (32767 < a0) = false := decide_eq_false c3
      clear c3
      simp only [Option.some.injEq, Prod.mk.injEq] at H
      obtain ⟨rfl, rfl⟩ := H
      go_enter Try.func32, Try.ntmps32
      go_wp2
      go_ret2
      exact ⟨by first | rfl | (simp; done) | (simp [*]; done), by repeat (first | exact Drawn0.refl _ | apply Drawn0.step)⟩

/-! ### mezzotintref01_Floor: function 33 -/
def mezzotintref01_Floor.f (a0 : Int) : Option (Int) := (mezzotintref01_Fits.f a0).bind fun t134 => (if t134 = true then ((mezzotintref01_below.f a0).bind fun t135 => (some t135)) else (some 0))
set_option maxHeartbeats 8000000 in
set_option maxRecDepth 100000 in
theorem mezzotintref01_Floor.calls (a0 : Int) (r : Int) (w : World) (h : mezzotintref01_Floor.f a0 = some r) :
    Calls Try.prog 33 #[.int .i64 a0] w fun e w' => e = .returned (.int .i64 r) ∧ Drawn0 w w' := by
  have H : ((mezzotintref01_Fits.f a0).bind fun t134 => (if t134 = true then ((mezzotintref01_below.f a0).bind fun t135 => (some t135)) else (some 0))) = some r := h
  clear h
  replace H := Option.bind_eq_some_iff.mp H
  obtain ⟨t134, A20, H⟩ := H
  replace H : (if t134 = true then ((mezzotintref01_below.f a0).bind fun t135 => (some t135)) else (some 0)) = some r := H
  have A2 := Aside0.mk A20
  clear A20
  by_cases c3 : t134 = true
  · subst c3
    have H1 : ((mezzotintref01_below.f a0).bind fun t135 => (some t135)) = some r := by rw [if_pos rfl] at H; exact H
    clear H
    have H := H1
    clear H1
    replace H := Option.bind_eq_some_iff.mp H
    obtain ⟨t135, A40, H⟩ := H
    replace H : (some t135) = some r := H
    have A4 := Aside0.mk A40
    clear A40
    obtain rfl := Option.some.inj H
    go_enter Try.func33, Try.ntmps33
    go_wp2_with (first | ((with_reducible refine gate_callee (f := 16) rfl ?_); refine goesL_ (some 4) rfl rfl Try.func16 (by kernel_rfl) rfl #[.int .i64 a0] rfl (by (try simp only [List.map_toArray, List.map_cons, List.map_nil]); first | done | rfl | (simp only [List.length_drop, List.length_take]; rfl)) ?_; (with_reducible refine (mezzotintref01_Fits.calls a0 true _ A2.out).mono ?_); rintro e w' ⟨rfl, ⟨nd, rfl⟩⟩; refine ⟨_, rfl, ?_⟩) | ((with_reducible refine gate_callee (f := 40) rfl ?_); refine goesL_ (some 7) rfl rfl Try.func40 (by kernel_rfl) rfl #[.int .i64 a0] rfl (by (try simp only [List.map_toArray, List.map_cons, List.map_nil]); first | done | rfl | (simp only [List.length_drop, List.length_take]; rfl)) ?_; (with_reducible refine (mezzotintref01_below.calls a0 t135 _ A4.out).mono ?_); rintro e w' ⟨rfl, ⟨nd, rfl⟩⟩; refine ⟨_, rfl, ?_⟩))
    go_ret
    exact ⟨by first | rfl | (simp; done) | (simp [*]; done), by repeat (first | exact Drawn0.refl _ | apply Drawn0.step)⟩
  · replace c3 := Bool.eq_false_iff.mpr c3
    subst c3
    have H1 : (some 0) = some r := by rw [if_neg (show ¬ (false = true) by decide)] at H; exact H
    clear H
    have H := H1
    clear H1
    obtain rfl := Option.some.inj H
    go_enter Try.func33, Try.ntmps33
    go_wp2_with (first | ((with_reducible refine gate_callee (f := 16) rfl ?_); refine goesL_ (some 4) rfl rfl Try.func16 (by kernel_rfl) rfl #[.int .i64 a0] rfl (by (try simp only [List.map_toArray, List.map_cons, List.map_nil]); first | done | rfl | (simp only [List.length_drop, List.length_take]; rfl)) ?_; (with_reducible refine (mezzotintref01_Fits.calls a0 false _ A2.out).mono ?_); rintro e w' ⟨rfl, ⟨nd, rfl⟩⟩; refine ⟨_, rfl, ?_⟩))
    go_ret
    exact ⟨by first | rfl | (simp; done) | (simp [*]; done), by repeat (first | exact Drawn0.refl _ | apply Drawn0.step)⟩

/-! ### mezzotintref01_Truncate: function 34 -/
def mezzotintref01_Truncate.f (a0 : Int) : Option (Int) := (mezzotintref01_Fits.f a0).bind fun t136 => (if t136 = true then (some (wrap64 ((wrap64 (Int.tdiv a0 65536)) * 65536))) else (some 0))
set_option maxHeartbeats 8000000 in
set_option maxRecDepth 100000 in
theorem mezzotintref01_Truncate.calls (a0 : Int) (r : Int) (w : World) (h : mezzotintref01_Truncate.f a0 = some r) :
    Calls Try.prog 34 #[.int .i64 a0] w fun e w' => e = .returned (.int .i64 r) ∧ Drawn0 w w' := by
  have H : ((mezzotintref01_Fits.f a0).bind fun t136 => (if t136 = true then (some (wrap64 ((wrap64 (Int.tdiv a0 65536)) * 65536))) else (some 0))) = some r := h
  clear h
  replace H := Option.bind_eq_some_iff.mp H
  obtain ⟨t136, A20, H⟩ := H
  replace H : (if t136 = true then (some (wrap64 ((wrap64 (Int.tdiv a0 65536)) * 65536))) else (some 0)) = some r := H
  have A2 := Aside0.mk A20
  clear A20
  by_cases c3 : t136 = true
  · subst c3
    have H1 : (some (wrap64 ((wrap64 (Int.tdiv a0 65536)) * 65536))) = some r := by rw [if_pos rfl] at H; exact H
    clear H
    have H := H1
    clear H1
    obtain rfl := Option.some.inj H
    go_enter Try.func34, Try.ntmps34
    go_wp2_with (first | ((with_reducible refine gate_callee (f := 16) rfl ?_); refine goesL_ (some 4) rfl rfl Try.func16 (by kernel_rfl) rfl #[.int .i64 a0] rfl (by (try simp only [List.map_toArray, List.map_cons, List.map_nil]); first | done | rfl | (simp only [List.length_drop, List.length_take]; rfl)) ?_; (with_reducible refine (mezzotintref01_Fits.calls a0 true _ A2.out).mono ?_); rintro e w' ⟨rfl, ⟨nd, rfl⟩⟩; refine ⟨_, rfl, ?_⟩))
    go_ret
    exact ⟨by first | rfl | (simp; done) | (simp [*]; done), by repeat (first | exact Drawn0.refl _ | apply Drawn0.step)⟩
  · replace c3 := Bool.eq_false_iff.mpr c3
    subst c3
    have H1 : (some 0) = some r := by rw [if_neg (show ¬ (false = true) by decide)] at H; exact H
    clear H
    have H := H1
    clear H1
    obtain rfl := Option.some.inj H
    go_enter Try.func34, Try.ntmps34
    go_wp2_with (first | ((with_reducible refine gate_callee (f := 16) rfl ?_); refine goesL_ (some 4) rfl rfl Try.func16 (by kernel_rfl) rfl #[.int .i64 a0] rfl (by (try simp only [List.map_toArray, List.map_cons, List.map_nil]); first | done | rfl | (simp only [List.length_drop, List.length_take]; rfl)) ?_; (with_reducible refine (mezzotintref01_Fits.calls a0 false _ A2.out).mono ?_); rintro e w' ⟨rfl, ⟨nd, rfl⟩⟩; refine ⟨_, rfl, ?_⟩))
    go_ret
    exact ⟨by first | rfl | (simp; done) | (simp [*]; done), by repeat (first | exact Drawn0.refl _ | apply Drawn0.step)⟩

/-! ### mezzotintlaw01_FixWholes: function 9 -/
def mezzotintlaw01_FixWholes.f (k : Nat) (a0 : Int) : Option (Bool) := (fix_Ceiling.f a0).bind fun bt137 => ((mezzotintref01_Ceiling.f a0).bind fun bt139 => ((fix_Round.f a0).bind fun bt141 => ((mezzotintref01_Round.f a0).bind fun bt143 => ((fix_FromInt.f a0).bind fun bt145 => ((mezzotintref01_FromInt.f a0).bind fun bt147 => ((mezzotintlaw01_answers.f k).bind fun t149 => (if t149 = true then ((mezzotintlaw01_same.f bt137.1 bt137.2 bt139.1 bt139.2).bind fun t150 => (if t150 = true then ((mezzotintlaw01_same.f bt141.1 bt141.2 bt143.1 bt143.2).bind fun t151 => (if t151 = true then ((mezzotintlaw01_same.f bt145.1 bt145.2 bt147.1 bt147.2).bind fun t152 => (if t152 = true then ((fix_Floor.f a0).bind fun t153 => ((mezzotintref01_Floor.f a0).bind fun t154 => (if t153 = t154 then ((fix_Truncate.f a0).bind fun t155 => ((mezzotintref01_Truncate.f a0).bind fun t156 => (some (t155 == t156)))) else (some false)))) else (some false))) else (some false))) else (some false))) else (some false))))))))
theorem mezzotintlaw01_FixWholes.mono : ∀ a0 k, LeO (mezzotintlaw01_FixWholes.f k a0) (mezzotintlaw01_FixWholes.f (k + 1) a0) := by
  intro a0 k
  unfold mezzotintlaw01_FixWholes.f
  repeat' first
      | (with_reducible exact mezzotintlaw01_answers.mono _)
      | (with_reducible exact LeO.refl _)
      | (with_reducible exact LeO.none _)
      | (with_reducible refine LeO.ite ?_ ?_)
      | (with_reducible refine LeO.bind ?_ (fun _ => ?_))
      | exact mezzotintlaw01_answers.mono _
      | exact LeO.none _
      | refine LeO.ite ?_ ?_
      | refine LeO.bind ?_ (fun _ => ?_)
set_option maxHeartbeats 8000000 in
set_option maxRecDepth 100000 in
theorem mezzotintlaw01_FixWholes.calls (k : Nat) (a0 : Int) (r : Bool) (w : World) (h : mezzotintlaw01_FixWholes.f k a0 = some r) :
    Calls Try.prog 9 #[.int .i64 a0] w fun e w' => e = .returned (.bool r) ∧ Below w.heap.size w w' := by
  have HB := Aside0.mk (Below.refl w.heap.size w)
  have H : ((fix_Ceiling.f a0).bind fun bt137 => ((mezzotintref01_Ceiling.f a0).bind fun bt139 => ((fix_Round.f a0).bind fun bt141 => ((mezzotintref01_Round.f a0).bind fun bt143 => ((fix_FromInt.f a0).bind fun bt145 => ((mezzotintref01_FromInt.f a0).bind fun bt147 => ((mezzotintlaw01_answers.f k).bind fun t149 => (if t149 = true then ((mezzotintlaw01_same.f bt137.1 bt137.2 bt139.1 bt139.2).bind fun t150 => (if t150 = true then ((mezzotintlaw01_same.f bt141.1 bt141.2 bt143.1 bt143.2).bind fun t151 => (if t151 = true then ((mezzotintlaw01_same.f bt145.1 bt145.2 bt147.1 bt147.2).bind fun t152 => (if t152 = true then ((fix_Floor.f a0).bind fun t153 => ((mezzotintref01_Floor.f a0).bind fun t154 => (if t153 = t154 then ((fix_Truncate.f a0).bind fun t155 => ((mezzotintref01_Truncate.f a0).bind fun t156 => (some (t155 == t156)))) else (some false)))) else (some false))) else (some false))) else (some false))) else (some false))))))))) = some r := h
  clear h
  replace H := Option.bind_eq_some_iff.mp H
  obtain ⟨⟨t137, t138⟩, A20, H⟩ := H
  replace H : ((mezzotintref01_Ceiling.f a0).bind fun bt139 => ((fix_Round.f a0).bind fun bt141 => ((mezzotintref01_Round.f a0).bind fun bt143 => ((fix_FromInt.f a0).bind fun bt145 => ((mezzotintref01_FromInt.f a0).bind fun bt147 => ((mezzotintlaw01_answers.f k).bind fun t149 => (if t149 = true then ((mezzotintlaw01_same.f t137 t138 bt139.1 bt139.2).bind fun t150 => (if t150 = true then ((mezzotintlaw01_same.f bt141.1 bt141.2 bt143.1 bt143.2).bind fun t151 => (if t151 = true then ((mezzotintlaw01_same.f bt145.1 bt145.2 bt147.1 bt147.2).bind fun t152 => (if t152 = true then ((fix_Floor.f a0).bind fun t153 => ((mezzotintref01_Floor.f a0).bind fun t154 => (if t153 = t154 then ((fix_Truncate.f a0).bind fun t155 => ((mezzotintref01_Truncate.f a0).bind fun t156 => (some (t155 == t156)))) else (some false)))) else (some false))) else (some false))) else (some false))) else (some false)))))))) = some r := H
  have A2 := Aside0.mk A20
  clear A20
  replace H := Option.bind_eq_some_iff.mp H
  obtain ⟨⟨t139, t140⟩, A30, H⟩ := H
  replace H : ((fix_Round.f a0).bind fun bt141 => ((mezzotintref01_Round.f a0).bind fun bt143 => ((fix_FromInt.f a0).bind fun bt145 => ((mezzotintref01_FromInt.f a0).bind fun bt147 => ((mezzotintlaw01_answers.f k).bind fun t149 => (if t149 = true then ((mezzotintlaw01_same.f t137 t138 t139 t140).bind fun t150 => (if t150 = true then ((mezzotintlaw01_same.f bt141.1 bt141.2 bt143.1 bt143.2).bind fun t151 => (if t151 = true then ((mezzotintlaw01_same.f bt145.1 bt145.2 bt147.1 bt147.2).bind fun t152 => (if t152 = true then ((fix_Floor.f a0).bind fun t153 => ((mezzotintref01_Floor.f a0).bind fun t154 => (if t153 = t154 then ((fix_Truncate.f a0).bind fun t155 => ((mezzotintref01_Truncate.f a0).bind fun t156 => (some (t155 == t156)))) else (some false)))) else (some false))) else (some false))) else (some false))) else (some false))))))) = some r := H
  have A3 := Aside0.mk A30
  clear A30
  replace H := Option.bind_eq_some_iff.mp H
  obtain ⟨⟨t141, t142⟩, A40, H⟩ := H
  replace H : ((mezzotintref01_Round.f a0).bind fun bt143 => ((fix_FromInt.f a0).bind fun bt145 => ((mezzotintref01_FromInt.f a0).bind fun bt147 => ((mezzotintlaw01_answers.f k).bind fun t149 => (if t149 = true then ((mezzotintlaw01_same.f t137 t138 t139 t140).bind fun t150 => (if t150 = true then ((mezzotintlaw01_same.f t141 t142 bt143.1 bt143.2).bind fun t151 => (if t151 = true then ((mezzotintlaw01_same.f bt145.1 bt145.2 bt147.1 bt147.2).bind fun t152 => (if t152 = true then ((fix_Floor.f a0).bind fun t153 => ((mezzotintref01_Floor.f a0).bind fun t154 => (if t153 = t154 then ((fix_Truncate.f a0).bind fun t155 => ((mezzotintref01_Truncate.f a0).bind fun t156 => (some (t155 == t156)))) else (some false)))) else (some false))) else (some false))) else (some false))) else (some false)))))) = some r := H
  have A4 := Aside0.mk A40
  clear A40
  replace H := Option.bind_eq_some_iff.mp H
  obtain ⟨⟨t143, t144⟩, A50, H⟩ := H
  replace H : ((fix_FromInt.f a0).bind fun bt145 => ((mezzotintref01_FromInt.f a0).bind fun bt147 => ((mezzotintlaw01_answers.f k).bind fun t149 => (if t149 = true then ((mezzotintlaw01_same.f t137 t138 t139 t140).bind fun t150 => (if t150 = true then ((mezzotintlaw01_same.f t141 t142 t143 t144).bind fun t151 => (if t151 = true then ((mezzotintlaw01_same.f bt145.1 bt145.2 bt147.1 bt147.2).bind fun t152 => (if t152 = true then ((fix_Floor.f a0).bind fun t153 => ((mezzotintref01_Floor.f a0).bind fun t154 => (if t153 = t154 then ((fix_Truncate.f a0).bind fun t155 => ((mezzotintref01_Truncate.f a0).bind fun t156 => (some (t155 == t156)))) else (some false)))) else (some false))) else (some false))) else (some false))) else (some false))))) = some r := H
  have A5 := Aside0.mk A50
  clear A50
  replace H := Option.bind_eq_some_iff.mp H
  obtain ⟨⟨t145, t146⟩, A60, H⟩ := H
  replace H : ((mezzotintref01_FromInt.f a0).bind fun bt147 => ((mezzotintlaw01_answers.f k).bind fun t149 => (if t149 = true then ((mezzotintlaw01_same.f t137 t138 t139 t140).bind fun t150 => (if t150 = true then ((mezzotintlaw01_same.f t141 t142 t143 t144).bind fun t151 => (if t151 = true then ((mezzotintlaw01_same.f t145 t146 bt147.1 bt147.2).bind fun t152 => (if t152 = true then ((fix_Floor.f a0).bind fun t153 => ((mezzotintref01_Floor.f a0).bind fun t154 => (if t153 = t154 then ((fix_Truncate.f a0).bind fun t155 => ((mezzotintref01_Truncate.f a0).bind fun t156 => (some (t155 == t156)))) else (some false)))) else (some false))) else (some false))) else (some false))) else (some false)))) = some r := H
  have A6 := Aside0.mk A60
  clear A60
  replace H := Option.bind_eq_some_iff.mp H
  obtain ⟨⟨t147, t148⟩, A70, H⟩ := H
  replace H : ((mezzotintlaw01_answers.f k).bind fun t149 => (if t149 = true then ((mezzotintlaw01_same.f t137 t138 t139 t140).bind fun t150 => (if t150 = true then ((mezzotintlaw01_same.f t141 t142 t143 t144).bind fun t151 => (if t151 = true then ((mezzotintlaw01_same.f t145 t146 t147 t148).bind fun t152 => (if t152 = true then ((fix_Floor.f a0).bind fun t153 => ((mezzotintref01_Floor.f a0).bind fun t154 => (if t153 = t154 then ((fix_Truncate.f a0).bind fun t155 => ((mezzotintref01_Truncate.f a0).bind fun t156 => (some (t155 == t156)))) else (some false)))) else (some false))) else (some false))) else (some false))) else (some false))) = some r := H
  have A7 := Aside0.mk A70
  clear A70
  replace H := Option.bind_eq_some_iff.mp H
  obtain ⟨t149, A80, H⟩ := H
  replace H : (if t149 = true then ((mezzotintlaw01_same.f t137 t138 t139 t140).bind fun t150 => (if t150 = true then ((mezzotintlaw01_same.f t141 t142 t143 t144).bind fun t151 => (if t151 = true then ((mezzotintlaw01_same.f t145 t146 t147 t148).bind fun t152 => (if t152 = true then ((fix_Floor.f a0).bind fun t153 => ((mezzotintref01_Floor.f a0).bind fun t154 => (if t153 = t154 then ((fix_Truncate.f a0).bind fun t155 => ((mezzotintref01_Truncate.f a0).bind fun t156 => (some (t155 == t156)))) else (some false)))) else (some false))) else (some false))) else (some false))) else (some false)) = some r := H
  have A8 := Aside0.mk A80
  clear A80
  by_cases c9 : t149 = true
  · subst c9
    have H1 : ((mezzotintlaw01_same.f t137 t138 t139 t140).bind fun t150 => (if t150 = true then ((mezzotintlaw01_same.f t141 t142 t143 t144).bind fun t151 => (if t151 = true then ((mezzotintlaw01_same.f t145 t146 t147 t148).bind fun t152 => (if t152 = true then ((fix_Floor.f a0).bind fun t153 => ((mezzotintref01_Floor.f a0).bind fun t154 => (if t153 = t154 then ((fix_Truncate.f a0).bind fun t155 => ((mezzotintref01_Truncate.f a0).bind fun t156 => (some (t155 == t156)))) else (some false)))) else (some false))) else (some false))) else (some false))) = some r := by rw [if_pos rfl] at H; exact H
    clear H
    have H := H1
    clear H1
    replace H := Option.bind_eq_some_iff.mp H
    obtain ⟨t150, A100, H⟩ := H
    replace H : (if t150 = true then ((mezzotintlaw01_same.f t141 t142 t143 t144).bind fun t151 => (if t151 = true then ((mezzotintlaw01_same.f t145 t146 t147 t148).bind fun t152 => (if t152 = true then ((fix_Floor.f a0).bind fun t153 => ((mezzotintref01_Floor.f a0).bind fun t154 => (if t153 = t154 then ((fix_Truncate.f a0).bind fun t155 => ((mezzotintref01_Truncate.f a0).bind fun t156 => (some (t155 == t156)))) else (some false)))) else (some false))) else (some false))) else (some false)) = some r := H
    have A10 := Aside0.mk A100
    clear A100
    by_cases c11 : t150 = true
    · subst c11
      have H1 : ((mezzotintlaw01_same.f t141 t142 t143 t144).bind fun t151 => (if t151 = true then ((mezzotintlaw01_same.f t145 t146 t147 t148).bind fun t152 => (if t152 = true then ((fix_Floor.f a0).bind fun t153 => ((mezzotintref01_Floor.f a0).bind fun t154 => (if t153 = t154 then ((fix_Truncate.f a0).bind fun t155 => ((mezzotintref01_Truncate.f a0).bind fun t156 => (some (t155 == t156)))) else (some false)))) else (some false))) else (some false))) = some r := by rw [if_pos rfl] at H; exact H
      clear H
      have H := H1
      clear H1
      replace H := Option.bind_eq_some_iff.mp H
      obtain ⟨t151, A120, H⟩ := H
      replace H : (if t151 = true then ((mezzotintlaw01_same.f t145 t146 t147 t148).bind fun t152 => (if t152 = true then ((fix_Floor.f a0).bind fun t153 => ((mezzotintref01_Floor.f a0).bind fun t154 => (if t153 = t154 then ((fix_Truncate.f a0).bind fun t155 => ((mezzotintref01_Truncate.f a0).bind fun t156 => (some (t155 == t156)))) else (some false)))) else (some false))) else (some false)) = some r := H
      have A12 := Aside0.mk A120
      clear A120
      by_cases c13 : t151 = true
      · subst c13
        have H1 : ((mezzotintlaw01_same.f t145 t146 t147 t148).bind fun t152 => (if t152 = true then ((fix_Floor.f a0).bind fun t153 => ((mezzotintref01_Floor.f a0).bind fun t154 => (if t153 = t154 then ((fix_Truncate.f a0).bind fun t155 => ((mezzotintref01_Truncate.f a0).bind fun t156 => (some (t155 == t156)))) else (some false)))) else (some false))) = some r := by rw [if_pos rfl] at H; exact H
        clear H
        have H := H1
        clear H1
        replace H := Option.bind_eq_some_iff.mp H
        obtain ⟨t152, A140, H⟩ := H
        replace H : (if t152 = true then ((fix_Floor.f a0).bind fun t153 => ((mezzotintref01_Floor.f a0).bind fun t154 => (if t153 = t154 then ((fix_Truncate.f a0).bind fun t155 => ((mezzotintref01_Truncate.f a0).bind fun t156 => (some (t155 == t156)))) else (some false)))) else (some false)) = some r := H
        have A14 := Aside0.mk A140
        clear A140
        by_cases c15 : t152 = true
        · subst c15
          have H1 : ((fix_Floor.f a0).bind fun t153 => ((mezzotintref01_Floor.f a0).bind fun t154 => (if t153 = t154 then ((fix_Truncate.f a0).bind fun t155 => ((mezzotintref01_Truncate.f a0).bind fun t156 => (some (t155 == t156)))) else (some false)))) = some r := by rw [if_pos rfl] at H; exact H
          clear H
          have H := H1
          clear H1
          replace H := Option.bind_eq_some_iff.mp H
          obtain ⟨t153, A160, H⟩ := H
          replace H : ((mezzotintref01_Floor.f a0).bind fun t154 => (if t153 = t154 then ((fix_Truncate.f a0).bind fun t155 => ((mezzotintref01_Truncate.f a0).bind fun t156 => (some (t155 == t156)))) else (some false))) = some r := H
          have A16 := Aside0.mk A160
          clear A160
          replace H := Option.bind_eq_some_iff.mp H
          obtain ⟨t154, A170, H⟩ := H
          replace H : (if t153 = t154 then ((fix_Truncate.f a0).bind fun t155 => ((mezzotintref01_Truncate.f a0).bind fun t156 => (some (t155 == t156)))) else (some false)) = some r := H
          have A17 := Aside0.mk A170
          clear A170
          by_cases c18 : t153 = t154
          · rw [if_pos c18] at H
            have c18b0 : (t153 == t154) = true := beq_iff_eq.mpr c18
            have c18b1 : (t153 != t154) = false := bne_eq_false_iff_eq.mpr c18
            clear c18
            replace H := Option.bind_eq_some_iff.mp H
            obtain ⟨t155, A190, H⟩ := H
            replace H : ((mezzotintref01_Truncate.f a0).bind fun t156 => (some (t155 == t156))) = some r := H
            have A19 := Aside0.mk A190
            clear A190
            replace H := Option.bind_eq_some_iff.mp H
            obtain ⟨t156, A200, H⟩ := H
            replace H : (some (t155 == t156)) = some r := H
            have A20 := Aside0.mk A200
            clear A200
            obtain rfl := Option.some.inj H
            go_enter Try.func9, Try.ntmps9
            go_wp2_with (first | ((with_reducible refine gate_callee (f := 26) rfl ?_); refine goesL_ (some 17) rfl rfl Try.func26 (by kernel_rfl) rfl #[.int .i64 a0] rfl (by (try simp only [List.map_toArray, List.map_cons, List.map_nil]); first | done | rfl | (simp only [List.length_drop, List.length_take]; rfl)) ?_; (with_reducible refine (fix_Ceiling.calls a0 t137 t138 _ A2.out).mono ?_); rintro e w' ⟨rfl, ⟨nd, rfl⟩⟩; refine ⟨_, rfl, ?_⟩) | ((with_reducible refine gate_callee (f := 29) rfl ?_); refine goesL_ (some 22) rfl rfl Try.func29 (by kernel_rfl) rfl #[.int .i64 a0] rfl (by (try simp only [List.map_toArray, List.map_cons, List.map_nil]); first | done | rfl | (simp only [List.length_drop, List.length_take]; rfl)) ?_; (with_reducible refine (mezzotintref01_Ceiling.calls a0 t139 t140 _ A3.out).mono ?_); rintro e w' ⟨rfl, ⟨nd, rfl⟩⟩; refine ⟨_, rfl, ?_⟩) | ((with_reducible refine gate_callee (f := 27) rfl ?_); refine goesL_ (some 27) rfl rfl Try.func27 (by kernel_rfl) rfl #[.int .i64 a0] rfl (by (try simp only [List.map_toArray, List.map_cons, List.map_nil]); first | done | rfl | (simp only [List.length_drop, List.length_take]; rfl)) ?_; (with_reducible refine (fix_Round.calls a0 t141 t142 _ A4.out).mono ?_); rintro e w' ⟨rfl, ⟨nd, rfl⟩⟩; refine ⟨_, rfl, ?_⟩) | ((with_reducible refine gate_callee (f := 30) rfl ?_); refine goesL_ (some 32) rfl rfl Try.func30 (by kernel_rfl) rfl #[.int .i64 a0] rfl (by (try simp only [List.map_toArray, List.map_cons, List.map_nil]); first | done | rfl | (simp only [List.length_drop, List.length_take]; rfl)) ?_; (with_reducible refine (mezzotintref01_Round.calls a0 t143 t144 _ A5.out).mono ?_); rintro e w' ⟨rfl, ⟨nd, rfl⟩⟩; refine ⟨_, rfl, ?_⟩) | ((with_reducible refine gate_callee (f := 31) rfl ?_); refine goesL_ (some 37) rfl rfl Try.func31 (by kernel_rfl) rfl #[.int .i64 a0] rfl (by (try simp only [List.map_toArray, List.map_cons, List.map_nil]); first | done | rfl | (simp only [List.length_drop, List.length_take]; rfl)) ?_; (with_reducible refine (fix_FromInt.calls a0 t145 t146 _ A6.out).mono ?_); rintro e w' ⟨rfl, ⟨nd, rfl⟩⟩; refine ⟨_, rfl, ?_⟩) | ((with_reducible refine gate_callee (f := 32) rfl ?_); refine goesL_ (some 42) rfl rfl Try.func32 (by kernel_rfl) rfl #[.int .i64 a0] rfl (by (try simp only [List.map_toArray, List.map_cons, List.map_nil]); first | done | rfl | (simp only [List.length_drop, List.length_take]; rfl)) ?_; (with_reducible refine (mezzotintref01_FromInt.calls a0 t147 t148 _ A7.out).mono ?_); rintro e w' ⟨rfl, ⟨nd, rfl⟩⟩; refine ⟨_, rfl, ?_⟩) | ((with_reducible refine gate_callee (f := 14) rfl ?_); refine goesL_ (some 45) rfl rfl Try.func14 (by kernel_rfl) rfl #[] rfl (by (try simp only [List.map_toArray, List.map_cons, List.map_nil]); first | done | rfl | (simp only [List.length_drop, List.length_take]; rfl)) ?_; (with_reducible refine (mezzotintlaw01_answers.calls k  true _ A8.out).mono ?_); rintro e w21 ⟨rfl, hb⟩; refine ⟨_, rfl, ?_⟩; have n0_ := Aside0.mk (below_step (by repeat (first | (with_reducible first | exact HB.out | apply below_alloc | apply pw_below_drewN | apply below_drew1) | exact HB.out)) hb); clear HB; have HB := n0_; clear n0_; (try clear hb); (try clear hb2); (try clear hk); (try clear hi)) | (go_at_call 15; (with_reducible refine (mezzotintlaw01_same.calls t137 t138 t139 t140 true _ A10.out).mono ?_); rintro e w' ⟨rfl, ⟨nd, rfl⟩⟩) | (go_at_call 15; (with_reducible refine (mezzotintlaw01_same.calls t141 t142 t143 t144 true _ A12.out).mono ?_); rintro e w' ⟨rfl, ⟨nd, rfl⟩⟩) | (go_at_call 15; (with_reducible refine (mezzotintlaw01_same.calls t145 t146 t147 t148 true _ A14.out).mono ?_); rintro e w' ⟨rfl, ⟨nd, rfl⟩⟩) | (go_at_call 25; (with_reducible refine (fix_Floor.calls a0 t153 _ A16.out).mono ?_); rintro e w' ⟨rfl, ⟨nd, rfl⟩⟩) | (go_at_call 33; (with_reducible refine (mezzotintref01_Floor.calls a0 t154 _ A17.out).mono ?_); rintro e w' ⟨rfl, ⟨nd, rfl⟩⟩) | (go_at_call 28; (with_reducible refine (fix_Truncate.calls a0 t155 _ A19.out).mono ?_); rintro e w' ⟨rfl, ⟨nd, rfl⟩⟩) | (go_at_call 34; (with_reducible refine (mezzotintref01_Truncate.calls a0 t156 _ A20.out).mono ?_); rintro e w' ⟨rfl, ⟨nd, rfl⟩⟩))
            go_ret
            exact ⟨by first | rfl | (simp [errW_none, errW_some] <;> rfl) | (simp [*, errW_none, errW_some] <;> rfl), by repeat (first | (with_reducible first | exact HB.out | apply below_alloc | apply pw_below_drewN | apply below_drew1) | exact HB.out)⟩
          · rw [if_neg c18] at H
            have c18b0 : (t153 == t154) = false := beq_eq_false_iff_ne.mpr c18
            have c18b1 : (t153 != t154) = true := bne_iff_ne.mpr c18
            obtain rfl := Option.some.inj H
            go_enter Try.func9, Try.ntmps9
            go_wp2_with (first | ((with_reducible refine gate_callee (f := 26) rfl ?_); refine goesL_ (some 17) rfl rfl Try.func26 (by kernel_rfl) rfl #[.int .i64 a0] rfl (by (try simp only [List.map_toArray, List.map_cons, List.map_nil]); first | done | rfl | (simp only [List.length_drop, List.length_take]; rfl)) ?_; (with_reducible refine (fix_Ceiling.calls a0 t137 t138 _ A2.out).mono ?_); rintro e w' ⟨rfl, ⟨nd, rfl⟩⟩; refine ⟨_, rfl, ?_⟩) | ((with_reducible refine gate_callee (f := 29) rfl ?_); refine goesL_ (some 22) rfl rfl Try.func29 (by kernel_rfl) rfl #[.int .i64 a0] rfl (by (try simp only [List.map_toArray, List.map_cons, List.map_nil]); first | done | rfl | (simp only [List.length_drop, List.length_take]; rfl)) ?_; (with_reducible refine (mezzotintref01_Ceiling.calls a0 t139 t140 _ A3.out).mono ?_); rintro e w' ⟨rfl, ⟨nd, rfl⟩⟩; refine ⟨_, rfl, ?_⟩) | ((with_reducible refine gate_callee (f := 27) rfl ?_); refine goesL_ (some 27) rfl rfl Try.func27 (by kernel_rfl) rfl #[.int .i64 a0] rfl (by (try simp only [List.map_toArray, List.map_cons, List.map_nil]); first | done | rfl | (simp only [List.length_drop, List.length_take]; rfl)) ?_; (with_reducible refine (fix_Round.calls a0 t141 t142 _ A4.out).mono ?_); rintro e w' ⟨rfl, ⟨nd, rfl⟩⟩; refine ⟨_, rfl, ?_⟩) | ((with_reducible refine gate_callee (f := 30) rfl ?_); refine goesL_ (some 32) rfl rfl Try.func30 (by kernel_rfl) rfl #[.int .i64 a0] rfl (by (try simp only [List.map_toArray, List.map_cons, List.map_nil]); first | done | rfl | (simp only [List.length_drop, List.length_take]; rfl)) ?_; (with_reducible refine (mezzotintref01_Round.calls a0 t143 t144 _ A5.out).mono ?_); rintro e w' ⟨rfl, ⟨nd, rfl⟩⟩; refine ⟨_, rfl, ?_⟩) | ((with_reducible refine gate_callee (f := 31) rfl ?_); refine goesL_ (some 37) rfl rfl Try.func31 (by kernel_rfl) rfl #[.int .i64 a0] rfl (by (try simp only [List.map_toArray, List.map_cons, List.map_nil]); first | done | rfl | (simp only [List.length_drop, List.length_take]; rfl)) ?_; (with_reducible refine (fix_FromInt.calls a0 t145 t146 _ A6.out).mono ?_); rintro e w' ⟨rfl, ⟨nd, rfl⟩⟩; refine ⟨_, rfl, ?_⟩) | ((with_reducible refine gate_callee (f := 32) rfl ?_); refine goesL_ (some 42) rfl rfl Try.func32 (by kernel_rfl) rfl #[.int .i64 a0] rfl (by (try simp only [List.map_toArray, List.map_cons, List.map_nil]); first | done | rfl | (simp only [List.length_drop, List.length_take]; rfl)) ?_; (with_reducible refine (mezzotintref01_FromInt.calls a0 t147 t148 _ A7.out).mono ?_); rintro e w' ⟨rfl, ⟨nd, rfl⟩⟩; refine ⟨_, rfl, ?_⟩) | ((with_reducible refine gate_callee (f := 14) rfl ?_); refine goesL_ (some 45) rfl rfl Try.func14 (by kernel_rfl) rfl #[] rfl (by (try simp only [List.map_toArray, List.map_cons, List.map_nil]); first | done | rfl | (simp only [List.length_drop, List.length_take]; rfl)) ?_; (with_reducible refine (mezzotintlaw01_answers.calls k  true _ A8.out).mono ?_); rintro e w22 ⟨rfl, hb⟩; refine ⟨_, rfl, ?_⟩; have n0_ := Aside0.mk (below_step (by repeat (first | (with_reducible first | exact HB.out | apply below_alloc | apply pw_below_drewN | apply below_drew1) | exact HB.out)) hb); clear HB; have HB := n0_; clear n0_; (try clear hb); (try clear hb2); (try clear hk); (try clear hi)) | (go_at_call 15; (with_reducible refine (mezzotintlaw01_same.calls t137 t138 t139 t140 true _ A10.out).mono ?_); rintro e w' ⟨rfl, ⟨nd, rfl⟩⟩) | (go_at_call 15; (with_reducible refine (mezzotintlaw01_same.calls t141 t142 t143 t144 true _ A12.out).mono ?_); rintro e w' ⟨rfl, ⟨nd, rfl⟩⟩) | (go_at_call 15; (with_reducible refine (mezzotintlaw01_same.calls t145 t146 t147 t148 true _ A14.out).mono ?_); rintro e w' ⟨rfl, ⟨nd, rfl⟩⟩) | (go_at_call 25; (with_reducible refine (fix_Floor.calls a0 t153 _ A16.out).mono ?_); rintro e w' ⟨rfl, ⟨nd, rfl⟩⟩) | (go_at_call 33; (with_reducible refine (mezzotintref01_Floor.calls a0 t154 _ A17.out).mono ?_); rintro e w' ⟨rfl, ⟨nd, rfl⟩⟩))
            go_ret
            exact ⟨by first | rfl | (simp [errW_none, errW_some] <;> rfl) | (simp [*, errW_none, errW_some] <;> rfl), by repeat (first | (with_reducible first | exact HB.out | apply below_alloc | apply pw_below_drewN | apply below_drew1) | exact HB.out)⟩
        · replace c15 := Bool.eq_false_iff.mpr c15
          subst c15
          have H1 : (some false) = some r := by rw [if_neg (show ¬ (false = true) by decide)] at H; exact H
          clear H
          have H := H1
          clear H1
          obtain rfl := Option.some.inj H
          go_enter Try.func9, Try.ntmps9
          go_wp2_with (first | ((with_reducible refine gate_callee (f := 26) rfl ?_); refine goesL_ (some 17) rfl rfl Try.func26 (by kernel_rfl) rfl #[.int .i64 a0] rfl (by (try simp only [List.map_toArray, List.map_cons, List.map_nil]); first | done | rfl | (simp only [List.length_drop, List.length_take]; rfl)) ?_; (with_reducible refine (fix_Ceiling.calls a0 t137 t138 _ A2.out).mono ?_); rintro e w' ⟨rfl, ⟨nd, rfl⟩⟩; refine ⟨_, rfl, ?_⟩) | ((with_reducible refine gate_callee (f := 29) rfl ?_); refine goesL_ (some 22) rfl rfl Try.func29 (by kernel_rfl) rfl #[.int .i64 a0] rfl (by (try simp only [List.map_toArray, List.map_cons, List.map_nil]); first | done | rfl | (simp only [List.length_drop, List.length_take]; rfl)) ?_; (with_reducible refine (mezzotintref01_Ceiling.calls a0 t139 t140 _ A3.out).mono ?_); rintro e w' ⟨rfl, ⟨nd, rfl⟩⟩; refine ⟨_, rfl, ?_⟩) | ((with_reducible refine gate_callee (f := 27) rfl ?_); refine goesL_ (some 27) rfl rfl Try.func27 (by kernel_rfl) rfl #[.int .i64 a0] rfl (by (try simp only [List.map_toArray, List.map_cons, List.map_nil]); first | done | rfl | (simp only [List.length_drop, List.length_take]; rfl)) ?_; (with_reducible refine (fix_Round.calls a0 t141 t142 _ A4.out).mono ?_); rintro e w' ⟨rfl, ⟨nd, rfl⟩⟩; refine ⟨_, rfl, ?_⟩) | ((with_reducible refine gate_callee (f := 30) rfl ?_); refine goesL_ (some 32) rfl rfl Try.func30 (by kernel_rfl) rfl #[.int .i64 a0] rfl (by (try simp only [List.map_toArray, List.map_cons, List.map_nil]); first | done | rfl | (simp only [List.length_drop, List.length_take]; rfl)) ?_; (with_reducible refine (mezzotintref01_Round.calls a0 t143 t144 _ A5.out).mono ?_); rintro e w' ⟨rfl, ⟨nd, rfl⟩⟩; refine ⟨_, rfl, ?_⟩) | ((with_reducible refine gate_callee (f := 31) rfl ?_); refine goesL_ (some 37) rfl rfl Try.func31 (by kernel_rfl) rfl #[.int .i64 a0] rfl (by (try simp only [List.map_toArray, List.map_cons, List.map_nil]); first | done | rfl | (simp only [List.length_drop, List.length_take]; rfl)) ?_; (with_reducible refine (fix_FromInt.calls a0 t145 t146 _ A6.out).mono ?_); rintro e w' ⟨rfl, ⟨nd, rfl⟩⟩; refine ⟨_, rfl, ?_⟩) | ((with_reducible refine gate_callee (f := 32) rfl ?_); refine goesL_ (some 42) rfl rfl Try.func32 (by kernel_rfl) rfl #[.int .i64 a0] rfl (by (try simp only [List.map_toArray, List.map_cons, List.map_nil]); first | done | rfl | (simp only [List.length_drop, List.length_take]; rfl)) ?_; (with_reducible refine (mezzotintref01_FromInt.calls a0 t147 t148 _ A7.out).mono ?_); rintro e w' ⟨rfl, ⟨nd, rfl⟩⟩; refine ⟨_, rfl, ?_⟩) | ((with_reducible refine gate_callee (f := 14) rfl ?_); refine goesL_ (some 45) rfl rfl Try.func14 (by kernel_rfl) rfl #[] rfl (by (try simp only [List.map_toArray, List.map_cons, List.map_nil]); first | done | rfl | (simp only [List.length_drop, List.length_take]; rfl)) ?_; (with_reducible refine (mezzotintlaw01_answers.calls k  true _ A8.out).mono ?_); rintro e w23 ⟨rfl, hb⟩; refine ⟨_, rfl, ?_⟩; have n0_ := Aside0.mk (below_step (by repeat (first | (with_reducible first | exact HB.out | apply below_alloc | apply pw_below_drewN | apply below_drew1) | exact HB.out)) hb); clear HB; have HB := n0_; clear n0_; (try clear hb); (try clear hb2); (try clear hk); (try clear hi)) | (go_at_call 15; (with_reducible refine (mezzotintlaw01_same.calls t137 t138 t139 t140 true _ A10.out).mono ?_); rintro e w' ⟨rfl, ⟨nd, rfl⟩⟩) | (go_at_call 15; (with_reducible refine (mezzotintlaw01_same.calls t141 t142 t143 t144 true _ A12.out).mono ?_); rintro e w' ⟨rfl, ⟨nd, rfl⟩⟩) | (go_at_call 15; (with_reducible refine (mezzotintlaw01_same.calls t145 t146 t147 t148 false _ A14.out).mono ?_); rintro e w' ⟨rfl, ⟨nd, rfl⟩⟩))
          go_ret
          exact ⟨by first | rfl | (simp [errW_none, errW_some] <;> rfl) | (simp [*, errW_none, errW_some] <;> rfl), by repeat (first | (with_reducible first | exact HB.out | apply below_alloc | apply pw_below_drewN | apply below_drew1) | exact HB.out)⟩
      · replace c13 := Bool.eq_false_iff.mpr c13
        subst c13
        have H1 : (some false) = some r := by rw [if_neg (show ¬ (false = true) by decide)] at H; exact H
        clear H
        have H := H1
        clear H1
        obtain rfl := Option.some.inj H
        go_enter Try.func9, Try.ntmps9
        go_wp2_with (first | ((with_reducible refine gate_callee (f := 26) rfl ?_); refine goesL_ (some 17) rfl rfl Try.func26 (by kernel_rfl) rfl #[.int .i64 a0] rfl (by (try simp only [List.map_toArray, List.map_cons, List.map_nil]); first | done | rfl | (simp only [List.length_drop, List.length_take]; rfl)) ?_; (with_reducible refine (fix_Ceiling.calls a0 t137 t138 _ A2.out).mono ?_); rintro e w' ⟨rfl, ⟨nd, rfl⟩⟩; refine ⟨_, rfl, ?_⟩) | ((with_reducible refine gate_callee (f := 29) rfl ?_); refine goesL_ (some 22) rfl rfl Try.func29 (by kernel_rfl) rfl #[.int .i64 a0] rfl (by (try simp only [List.map_toArray, List.map_cons, List.map_nil]); first | done | rfl | (simp only [List.length_drop, List.length_take]; rfl)) ?_; (with_reducible refine (mezzotintref01_Ceiling.calls a0 t139 t140 _ A3.out).mono ?_); rintro e w' ⟨rfl, ⟨nd, rfl⟩⟩; refine ⟨_, rfl, ?_⟩) | ((with_reducible refine gate_callee (f := 27) rfl ?_); refine goesL_ (some 27) rfl rfl Try.func27 (by kernel_rfl) rfl #[.int .i64 a0] rfl (by (try simp only [List.map_toArray, List.map_cons, List.map_nil]); first | done | rfl | (simp only [List.length_drop, List.length_take]; rfl)) ?_; (with_reducible refine (fix_Round.calls a0 t141 t142 _ A4.out).mono ?_); rintro e w' ⟨rfl, ⟨nd, rfl⟩⟩; refine ⟨_, rfl, ?_⟩) | ((with_reducible refine gate_callee (f := 30) rfl ?_); refine goesL_ (some 32) rfl rfl Try.func30 (by kernel_rfl) rfl #[.int .i64 a0] rfl (by (try simp only [List.map_toArray, List.map_cons, List.map_nil]); first | done | rfl | (simp only [List.length_drop, List.length_take]; rfl)) ?_; (with_reducible refine (mezzotintref01_Round.calls a0 t143 t144 _ A5.out).mono ?_); rintro e w' ⟨rfl, ⟨nd, rfl⟩⟩; refine ⟨_, rfl, ?_⟩) | ((with_reducible refine gate_callee (f := 31) rfl ?_); refine goesL_ (some 37) rfl rfl Try.func31 (by kernel_rfl) rfl #[.int .i64 a0] rfl (by (try simp only [List.map_toArray, List.map_cons, List.map_nil]); first | done | rfl | (simp only [List.length_drop, List.length_take]; rfl)) ?_; (with_reducible refine (fix_FromInt.calls a0 t145 t146 _ A6.out).mono ?_); rintro e w' ⟨rfl, ⟨nd, rfl⟩⟩; refine ⟨_, rfl, ?_⟩) | ((with_reducible refine gate_callee (f := 32) rfl ?_); refine goesL_ (some 42) rfl rfl Try.func32 (by kernel_rfl) rfl #[.int .i64 a0] rfl (by (try simp only [List.map_toArray, List.map_cons, List.map_nil]); first | done | rfl | (simp only [List.length_drop, List.length_take]; rfl)) ?_; (with_reducible refine (mezzotintref01_FromInt.calls a0 t147 t148 _ A7.out).mono ?_); rintro e w' ⟨rfl, ⟨nd, rfl⟩⟩; refine ⟨_, rfl, ?_⟩) | ((with_reducible refine gate_callee (f := 14) rfl ?_); refine goesL_ (some 45) rfl rfl Try.func14 (by kernel_rfl) rfl #[] rfl (by (try simp only [List.map_toArray, List.map_cons, List.map_nil]); first | done | rfl | (simp only [List.length_drop, List.length_take]; rfl)) ?_; (with_reducible refine (mezzotintlaw01_answers.calls k  true _ A8.out).mono ?_); rintro e w24 ⟨rfl, hb⟩; refine ⟨_, rfl, ?_⟩; have n0_ := Aside0.mk (below_step (by repeat (first | (with_reducible first | exact HB.out | apply below_alloc | apply pw_below_drewN | apply below_drew1) | exact HB.out)) hb); clear HB; have HB := n0_; clear n0_; (try clear hb); (try clear hb2); (try clear hk); (try clear hi)) | (go_at_call 15; (with_reducible refine (mezzotintlaw01_same.calls t137 t138 t139 t140 true _ A10.out).mono ?_); rintro e w' ⟨rfl, ⟨nd, rfl⟩⟩) | (go_at_call 15; (with_reducible refine (mezzotintlaw01_same.calls t141 t142 t143 t144 false _ A12.out).mono ?_); rintro e w' ⟨rfl, ⟨nd, rfl⟩⟩))
        go_ret
        exact ⟨by first | rfl | (simp [errW_none, errW_some] <;> rfl) | (simp [*, errW_none, errW_some] <;> rfl), by repeat (first | (with_reducible first | exact HB.out | apply below_alloc | apply pw_below_drewN | apply below_drew1) | exact HB.out)⟩
    · replace c11 := Bool.eq_false_iff.mpr c11
      subst c11
      have H1 : (some false) = some r := by rw [if_neg (show ¬ (false = true) by decide)] at H; exact H
      clear H
      have H := H1
      clear H1
      obtain rfl := Option.some.inj H
      go_enter Try.func9, Try.ntmps9
      go_wp2_with (first | ((with_reducible refine gate_callee (f := 26) rfl ?_); refine goesL_ (some 17) rfl rfl Try.func26 (by kernel_rfl) rfl #[.int .i64 a0] rfl (by (try simp only [List.map_toArray, List.map_cons, List.map_nil]); first | done | rfl | (simp only [List.length_drop, List.length_take]; rfl)) ?_; (with_reducible refine (fix_Ceiling.calls a0 t137 t138 _ A2.out).mono ?_); rintro e w' ⟨rfl, ⟨nd, rfl⟩⟩; refine ⟨_, rfl, ?_⟩) | ((with_reducible refine gate_callee (f := 29) rfl ?_); refine goesL_ (some 22) rfl rfl Try.func29 (by kernel_rfl) rfl #[.int .i64 a0] rfl (by (try simp only [List.map_toArray, List.map_cons, List.map_nil]); first | done | rfl | (simp only [List.length_drop, List.length_take]; rfl)) ?_; (with_reducible refine (mezzotintref01_Ceiling.calls a0 t139 t140 _ A3.out).mono ?_); rintro e w' ⟨rfl, ⟨nd, rfl⟩⟩; refine ⟨_, rfl, ?_⟩) | ((with_reducible refine gate_callee (f := 27) rfl ?_); refine goesL_ (some 27) rfl rfl Try.func27 (by kernel_rfl) rfl #[.int .i64 a0] rfl (by (try simp only [List.map_toArray, List.map_cons, List.map_nil]); first | done | rfl | (simp only [List.length_drop, List.length_take]; rfl)) ?_; (with_reducible refine (fix_Round.calls a0 t141 t142 _ A4.out).mono ?_); rintro e w' ⟨rfl, ⟨nd, rfl⟩⟩; refine ⟨_, rfl, ?_⟩) | ((with_reducible refine gate_callee (f := 30) rfl ?_); refine goesL_ (some 32) rfl rfl Try.func30 (by kernel_rfl) rfl #[.int .i64 a0] rfl (by (try simp only [List.map_toArray, List.map_cons, List.map_nil]); first | done | rfl | (simp only [List.length_drop, List.length_take]; rfl)) ?_; (with_reducible refine (mezzotintref01_Round.calls a0 t143 t144 _ A5.out).mono ?_); rintro e w' ⟨rfl, ⟨nd, rfl⟩⟩; refine ⟨_, rfl, ?_⟩) | ((with_reducible refine gate_callee (f := 31) rfl ?_); refine goesL_ (some 37) rfl rfl Try.func31 (by kernel_rfl) rfl #[.int .i64 a0] rfl (by (try simp only [List.map_toArray, List.map_cons, List.map_nil]); first | done | rfl | (simp only [List.length_drop, List.length_take]; rfl)) ?_; (with_reducible refine (fix_FromInt.calls a0 t145 t146 _ A6.out).mono ?_); rintro e w' ⟨rfl, ⟨nd, rfl⟩⟩; refine ⟨_, rfl, ?_⟩) | ((with_reducible refine gate_callee (f := 32) rfl ?_); refine goesL_ (some 42) rfl rfl Try.func32 (by kernel_rfl) rfl #[.int .i64 a0] rfl (by (try simp only [List.map_toArray, List.map_cons, List.map_nil]); first | done | rfl | (simp only [List.length_drop, List.length_take]; rfl)) ?_; (with_reducible refine (mezzotintref01_FromInt.calls a0 t147 t148 _ A7.out).mono ?_); rintro e w' ⟨rfl, ⟨nd, rfl⟩⟩; refine ⟨_, rfl, ?_⟩) | ((with_reducible refine gate_callee (f := 14) rfl ?_); refine goesL_ (some 45) rfl rfl Try.func14 (by kernel_rfl) rfl #[] rfl (by (try simp only [List.map_toArray, List.map_cons, List.map_nil]); first | done | rfl | (simp only [List.length_drop, List.length_take]; rfl)) ?_; (with_reducible refine (mezzotintlaw01_answers.calls k  true _ A8.out).mono ?_); rintro e w25 ⟨rfl, hb⟩; refine ⟨_, rfl, ?_⟩; have n0_ := Aside0.mk (below_step (by repeat (first | (with_reducible first | exact HB.out | apply below_alloc | apply pw_below_drewN | apply below_drew1) | exact HB.out)) hb); clear HB; have HB := n0_; clear n0_; (try clear hb); (try clear hb2); (try clear hk); (try clear hi)) | (go_at_call 15; (with_reducible refine (mezzotintlaw01_same.calls t137 t138 t139 t140 false _ A10.out).mono ?_); rintro e w' ⟨rfl, ⟨nd, rfl⟩⟩))
      go_ret
      exact ⟨by first | rfl | (simp [errW_none, errW_some] <;> rfl) | (simp [*, errW_none, errW_some] <;> rfl), by repeat (first | (with_reducible first | exact HB.out | apply below_alloc | apply pw_below_drewN | apply below_drew1) | exact HB.out)⟩
  · replace c9 := Bool.eq_false_iff.mpr c9
    subst c9
    have H1 : (some false) = some r := by rw [if_neg (show ¬ (false = true) by decide)] at H; exact H
    clear H
    have H := H1
    clear H1
    obtain rfl := Option.some.inj H
    go_enter Try.func9, Try.ntmps9
    go_wp2_with (first | ((with_reducible refine gate_callee (f := 26) rfl ?_); refine goesL_ (some 17) rfl rfl Try.func26 (by kernel_rfl) rfl #[.int .i64 a0] rfl (by (try simp only [List.map_toArray, List.map_cons, List.map_nil]); first | done | rfl | (simp only [List.length_drop, List.length_take]; rfl)) ?_; (with_reducible refine (fix_Ceiling.calls a0 t137 t138 _ A2.out).mono ?_); rintro e w' ⟨rfl, ⟨nd, rfl⟩⟩; refine ⟨_, rfl, ?_⟩) | ((with_reducible refine gate_callee (f := 29) rfl ?_); refine goesL_ (some 22) rfl rfl Try.func29 (by kernel_rfl) rfl #[.int .i64 a0] rfl (by (try simp only [List.map_toArray, List.map_cons, List.map_nil]); first | done | rfl | (simp only [List.length_drop, List.length_take]; rfl)) ?_; (with_reducible refine (mezzotintref01_Ceiling.calls a0 t139 t140 _ A3.out).mono ?_); rintro e w' ⟨rfl, ⟨nd, rfl⟩⟩; refine ⟨_, rfl, ?_⟩) | ((with_reducible refine gate_callee (f := 27) rfl ?_); refine goesL_ (some 27) rfl rfl Try.func27 (by kernel_rfl) rfl #[.int .i64 a0] rfl (by (try simp only [List.map_toArray, List.map_cons, List.map_nil]); first | done | rfl | (simp only [List.length_drop, List.length_take]; rfl)) ?_; (with_reducible refine (fix_Round.calls a0 t141 t142 _ A4.out).mono ?_); rintro e w' ⟨rfl, ⟨nd, rfl⟩⟩; refine ⟨_, rfl, ?_⟩) | ((with_reducible refine gate_callee (f := 30) rfl ?_); refine goesL_ (some 32) rfl rfl Try.func30 (by kernel_rfl) rfl #[.int .i64 a0] rfl (by (try simp only [List.map_toArray, List.map_cons, List.map_nil]); first | done | rfl | (simp only [List.length_drop, List.length_take]; rfl)) ?_; (with_reducible refine (mezzotintref01_Round.calls a0 t143 t144 _ A5.out).mono ?_); rintro e w' ⟨rfl, ⟨nd, rfl⟩⟩; refine ⟨_, rfl, ?_⟩) | ((with_reducible refine gate_callee (f := 31) rfl ?_); refine goesL_ (some 37) rfl rfl Try.func31 (by kernel_rfl) rfl #[.int .i64 a0] rfl (by (try simp only [List.map_toArray, List.map_cons, List.map_nil]); first | done | rfl | (simp only [List.length_drop, List.length_take]; rfl)) ?_; (with_reducible refine (fix_FromInt.calls a0 t145 t146 _ A6.out).mono ?_); rintro e w' ⟨rfl, ⟨nd, rfl⟩⟩; refine ⟨_, rfl, ?_⟩) | ((with_reducible refine gate_callee (f := 32) rfl ?_); refine goesL_ (some 42) rfl rfl Try.func32 (by kernel_rfl) rfl #[.int .i64 a0] rfl (by (try simp only [List.map_toArray, List.map_cons, List.map_nil]); first | done | rfl | (simp only [List.length_drop, List.length_take]; rfl)) ?_; (with_reducible refine (mezzotintref01_FromInt.calls a0 t147 t148 _ A7.out).mono ?_); rintro e w' ⟨rfl, ⟨nd, rfl⟩⟩; refine ⟨_, rfl, ?_⟩) | ((with_reducible refine gate_callee (f := 14) rfl ?_); refine goesL_ (some 45) rfl rfl Try.func14 (by kernel_rfl) rfl #[] rfl (by (try simp only [List.map_toArray, List.map_cons, List.map_nil]); first | done | rfl | (simp only [List.length_drop, List.length_take]; rfl)) ?_; (with_reducible refine (mezzotintlaw01_answers.calls k  false _ A8.out).mono ?_); rintro e w26 ⟨rfl, hb⟩; refine ⟨_, rfl, ?_⟩; have n0_ := Aside0.mk (below_step (by repeat (first | (with_reducible first | exact HB.out | apply below_alloc | apply pw_below_drewN | apply below_drew1) | exact HB.out)) hb); clear HB; have HB := n0_; clear n0_; (try clear hb); (try clear hb2); (try clear hk); (try clear hi)))
    go_ret
    exact ⟨by first | rfl | (simp [errW_none, errW_some] <;> rfl) | (simp [*, errW_none, errW_some] <;> rfl), by repeat (first | (with_reducible first | exact HB.out | apply below_alloc | apply pw_below_drewN | apply below_drew1) | exact HB.out)⟩

/-- THE ONE PURE STATEMENT of mezzotintlaw01_FixWholes: yours. -/
def mezzotintlaw01_FixWholes.Pure : Prop := ∀ (a0 : Int), (Lit.int .i64 a0).wf = true → ∃ k, mezzotintlaw01_FixWholes.f k a0 = some true
theorem mezzotintlaw01_FixWholes.walk (P : mezzotintlaw01_FixWholes.Pure) (a0 : Int) (w : World) (w0 : (Lit.int .i64 a0).wf = true) :
    Calls Try.prog 9 #[.int .i64 a0] w fun e w' => e = .returned (.bool true) ∧ Below w.heap.size w w' := by
  obtain ⟨k, h⟩ := P a0 w0
  refine (mezzotintlaw01_FixWholes.calls k a0 true w h).mono ?_
  rintro e w' ⟨rfl, hd⟩
  exact ⟨rfl, hd⟩

end Go.Proofs.Ytonchamkagadbaa.PFixWholes
