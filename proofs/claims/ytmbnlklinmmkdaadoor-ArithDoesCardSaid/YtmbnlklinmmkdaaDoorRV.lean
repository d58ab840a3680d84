import Derived.Test.YtmbnlklinmmkdaaDoorADo
namespace Go.Proofs.YtmbnlklinmmkdaaDoor.One
open Go.RowKit Go.Proofs.YtmbnlklinmmkdaaDoorW.PrintWords Go.Proofs.YtmbnlklinmmkdaaDoorW.PrintLast Go.Proofs.YtmbnlklinmmkdaaDoorW.PrintMore
open Go.Proofs.YtmbnlklinmmkdaaDoor.Ref Go.Proofs.YtmbnlklinmmkdaaDoor.Sem Go.Proofs.YtmbnlklinmmkdaaDoor.Base Go.Proofs.YtmbnlklinmmkdaaDoor.Pure Go.Proofs.YtmbnlklinmmkdaaDoor.Leaf Go.Proofs.YtmbnlklinmmkdaaDoor.Turns Go.Proofs.YtmbnlklinmmkdaaDoor.MatA Go.Proofs.YtmbnlklinmmkdaaDoor.PArithDoes
set_option linter.unusedVariables false
abbrev vC (k : Int) (x : Bool) (a n : Int) (s : ByteArray) : Array Value := #[.int .i64 k, .bool x, .int .i64 a, .int .i64 n, .string s, .pointer none, .pointer none, .pointer none, .int .i64 0, .int .i64 0]
abbrev vV (k : Int) (x : Bool) (a n : Int) (s : ByteArray) : Value := .agg #[.int .i64 k, .bool x, .int .i64 a, .int .i64 n, .string s, .pointer none, .pointer none, .pointer none, .int .i64 0, .int .i64 0]
abbrev vpC (k n : Int) : Array Value := #[.int .i64 k, .bool false, .int .i64 0, .int .i64 n, .string (⟨#[]⟩ : ByteArray), .pointer none, .pointer none, .pointer none, .int .i64 0, .int .i64 0]
abbrev vP (k n : Int) : Value := .agg #[.int .i64 k, .bool false, .int .i64 0, .int .i64 n, .string (⟨#[]⟩ : ByteArray), .pointer none, .pointer none, .pointer none, .int .i64 0, .int .i64 0]
def GotV (w : World) (r : R3) (e : Ending) (w' : World) : Prop := ∃ g, e = .returned (.tuple #[.slice (some ⟨g, 0, none⟩) 1 1, .int .i64 0]) ∧ w.heap.size ≤ g ∧ Has w' g (vpC r.k r.n) 35 ∧ Below w.heap.size w w'
set_option maxHeartbeats 1600000 in
set_option maxRecDepth 100000 in
theorem vVal (k : Int) (x : Bool) (a n : Int) (s : ByteArray) (r f l : Int) (w : World) : Calls Tryd.prog 11 #[oV k x a n s r f l] w fun e w' => e = .returned (vV k x a n s) ∧ Below w.heap.size w w' := by
  go_enter Tryd.func11, Tryd.ntmps11
  go_wp2
  exact bodyPost_ret (results_cell_row rfl _ _ (w.heap.size + 1) 35 #[.int .i64 k, .bool x, .int .i64 a, .int .i64 n, .string s, .pointer none, .pointer none, .pointer none, .int .i64 0, .int .i64 0] (0, 0) _ rfl (show Has _ (w.heap.size + 1) #[.int .i64 k, .bool x, .int .i64 a, .int .i64 n, .string s, .pointer none, .pointer none, .pointer none, .int .i64 0, .int .i64 0] 35 from (by repeat (first | ((with_reducible refine Has.new _ _ _ ?_); (simp; done)) | (with_reducible first | apply Has.alloc | apply Has.drewN)))) Tryd.underlying35 rfl (by kernel_rfl)) rfl ⟨rfl, (by repeat (first | exact Below.refl _ _ | apply below_alloc | apply pw_below_drewN | apply below_drew1))⟩
set_option maxHeartbeats 1600000 in
set_option maxRecDepth 100000 in
theorem vWhole (n : Int) (w : World) : Calls Tryd.prog 22 #[.int .i64 n] w fun e w' => e = .returned (vP 1 n) ∧ Below w.heap.size w w' := by
  go_enter Tryd.func22, Tryd.ntmps22
  go_wp2
  exact bodyPost_ret (results_cell_row rfl _ _ (w.heap.size) 35 #[.int .i64 1, .bool false, .int .i64 0, .int .i64 n, .string (⟨#[]⟩ : ByteArray), .pointer none, .pointer none, .pointer none, .int .i64 0, .int .i64 0] (0, 0) _ rfl (show Has _ (w.heap.size) #[.int .i64 1, .bool false, .int .i64 0, .int .i64 n, .string (⟨#[]⟩ : ByteArray), .pointer none, .pointer none, .pointer none, .int .i64 0, .int .i64 0] 35 from (by repeat (first | ((with_reducible refine Has.new _ _ _ ?_); (simp; done)) | (with_reducible first | apply Has.alloc | apply Has.drewN)))) Tryd.underlying35 rfl (by kernel_rfl)) rfl ⟨rfl, (by repeat (first | exact Below.refl _ _ | apply below_alloc | apply pw_below_drewN | apply below_drew1))⟩
set_option maxHeartbeats 1600000 in
set_option maxRecDepth 100000 in
theorem vReal (n : Int) (w : World) : Calls Tryd.prog 55 #[.int .i64 n] w fun e w' => e = .returned (vP 2 n) ∧ Below w.heap.size w w' := by
  go_enter Tryd.func55, Tryd.ntmps55
  go_wp2
  exact bodyPost_ret (results_cell_row rfl _ _ (w.heap.size) 35 #[.int .i64 2, .bool false, .int .i64 0, .int .i64 n, .string (⟨#[]⟩ : ByteArray), .pointer none, .pointer none, .pointer none, .int .i64 0, .int .i64 0] (0, 0) _ rfl (show Has _ (w.heap.size) #[.int .i64 2, .bool false, .int .i64 0, .int .i64 n, .string (⟨#[]⟩ : ByteArray), .pointer none, .pointer none, .pointer none, .int .i64 0, .int .i64 0] 35 from (by repeat (first | ((with_reducible refine Has.new _ _ _ ?_); (simp; done)) | (with_reducible first | apply Has.alloc | apply Has.drewN)))) Tryd.underlying35 rfl (by kernel_rfl)) rfl ⟨rfl, (by repeat (first | exact Below.refl _ _ | apply below_alloc | apply pw_below_drewN | apply below_drew1))⟩
set_option maxHeartbeats 1600000 in
set_option maxRecDepth 100000 in
theorem vTruth (b : Bool) (w : World) : Calls Tryd.prog 20 #[.bool b] w fun e w' => e = .returned (vP (tv b).k (tv b).n) ∧ Below w.heap.size w w' := by
  cases b
  · go_enter Tryd.func20, Tryd.ntmps20
    go_wp2
    exact bodyPost_ret (results_cell_row rfl _ _ (w.heap.size) 35 #[.int .i64 3, .bool false, .int .i64 0, .int .i64 0, .string (⟨#[]⟩ : ByteArray), .pointer none, .pointer none, .pointer none, .int .i64 0, .int .i64 0] (0, 0) _ rfl (show Has _ (w.heap.size) #[.int .i64 3, .bool false, .int .i64 0, .int .i64 0, .string (⟨#[]⟩ : ByteArray), .pointer none, .pointer none, .pointer none, .int .i64 0, .int .i64 0] 35 from (by repeat (first | ((with_reducible refine Has.new _ _ _ ?_); (simp; done)) | (with_reducible first | apply Has.alloc | apply Has.drewN)))) Tryd.underlying35 rfl (by kernel_rfl)) rfl ⟨rfl, (by repeat (first | exact Below.refl _ _ | apply below_alloc | apply pw_below_drewN | apply below_drew1))⟩
  · go_enter Tryd.func20, Tryd.ntmps20
    go_wp2
    exact bodyPost_ret (results_cell_row rfl _ _ (w.heap.size) 35 #[.int .i64 3, .bool false, .int .i64 0, .int .i64 1, .string (⟨#[]⟩ : ByteArray), .pointer none, .pointer none, .pointer none, .int .i64 0, .int .i64 0] (0, 0) _ rfl (show Has _ (w.heap.size) #[.int .i64 3, .bool false, .int .i64 0, .int .i64 1, .string (⟨#[]⟩ : ByteArray), .pointer none, .pointer none, .pointer none, .int .i64 0, .int .i64 0] 35 from (by repeat (first | ((with_reducible refine Has.new _ _ _ ?_); (simp; done)) | (with_reducible first | apply Has.alloc | apply Has.drewN)))) Tryd.underlying35 rfl (by kernel_rfl)) rfl ⟨rfl, (by repeat (first | exact Below.refl _ _ | apply below_alloc | apply pw_below_drewN | apply below_drew1))⟩
set_option maxHeartbeats 1600000 in
set_option maxRecDepth 100000 in
theorem vIsNumber (k : Int) (x : Bool) (a n : Int) (s : ByteArray) (w : World) : Calls Tryd.prog 15 #[vV k x a n s] w fun e w' => e = .returned (.bool (isNumB k n)) ∧ Below w.heap.size w w' := by
  by_cases h1 : k = 1
  · have E := Aside0.mk (show isNumB k n = fitB n by unfold isNumB; simp [h1])
    have q1 : (k == 1) = true := beq_iff_eq.mpr h1
    clear h1
    go_enter Tryd.func15, Tryd.ntmps15
    go_wp2_with (go_at_call 37; ((with_reducible refine (rFits _ _).mono ?_); rintro e w' ⟨rfl, ⟨nd, rfl⟩⟩))
    go_ret
    exact ⟨by rw [E.out]; rfl, (by repeat (first | exact Below.refl _ _ | apply below_alloc | apply pw_below_drewN | apply below_drew1))⟩
  · have q1 : (k == 1) = false := beq_eq_false_iff_ne.mpr h1
    by_cases h2 : k = 2
    · have E := Aside0.mk (show isNumB k n = fitB n by unfold isNumB; simp [h2])
      have q2 : (k == 2) = true := beq_iff_eq.mpr h2
      clear h1 h2
      go_enter Tryd.func15, Tryd.ntmps15
      go_wp2_with (go_at_call 37; ((with_reducible refine (rFits _ _).mono ?_); rintro e w' ⟨rfl, ⟨nd, rfl⟩⟩))
      go_ret
      exact ⟨by rw [E.out]; rfl, (by repeat (first | exact Below.refl _ _ | apply below_alloc | apply pw_below_drewN | apply below_drew1))⟩
    · have E := Aside0.mk (show isNumB k n = false by unfold isNumB; simp [h1, h2])
      have q2 : (k == 2) = false := beq_eq_false_iff_ne.mpr h2
      clear h1 h2
      go_enter Tryd.func15, Tryd.ntmps15
      go_wp2_with (go_at_call 37; ((with_reducible refine (rFits _ _).mono ?_); rintro e w' ⟨rfl, ⟨nd, rfl⟩⟩))
      go_ret
      exact ⟨by rw [E.out]; rfl, (by repeat (first | exact Below.refl _ _ | apply below_alloc | apply pw_below_drewN | apply below_drew1))⟩
set_option maxHeartbeats 1600000 in
set_option maxRecDepth 100000 in
theorem vIsTruth (k : Int) (x : Bool) (a n : Int) (s : ByteArray) (w : World) : Calls Tryd.prog 18 #[vV k x a n s] w fun e w' => e = .returned (.bool (isTruB k n)) ∧ Below w.heap.size w w' := by
  by_cases h1 : k = 3
  · have q1 : (k == 3) = true := beq_iff_eq.mpr h1
    by_cases h2 : n = 0
    · have E := Aside0.mk (show isTruB k n = true by unfold isTruB; simp [h1, h2])
      have q2 : (n == 0) = true := beq_iff_eq.mpr h2
      clear h1 h2
      go_enter Tryd.func18, Tryd.ntmps18
      go_wp2
      go_ret
      exact ⟨by rw [E.out]; rfl, (by repeat (first | exact Below.refl _ _ | apply below_alloc | apply pw_below_drewN | apply below_drew1))⟩
    · have E := Aside0.mk (show isTruB k n = (n == 1) by unfold isTruB; simp [h1, h2])
      have q2 : (n == 0) = false := beq_eq_false_iff_ne.mpr h2
      clear h1 h2
      go_enter Tryd.func18, Tryd.ntmps18
      go_wp2
      go_ret
      exact ⟨by rw [E.out]; rfl, (by repeat (first | exact Below.refl _ _ | apply below_alloc | apply pw_below_drewN | apply below_drew1))⟩
  · have E := Aside0.mk (show isTruB k n = false by unfold isTruB; simp [h1])
    have q1 : (k == 3) = false := beq_eq_false_iff_ne.mpr h1
    clear h1
    go_enter Tryd.func18, Tryd.ntmps18
    go_wp2
    go_ret
    exact ⟨by rw [E.out]; rfl, (by repeat (first | exact Below.refl _ _ | apply below_alloc | apply pw_below_drewN | apply below_drew1))⟩
set_option maxHeartbeats 1600000 in
set_option maxRecDepth 100000 in
theorem vIsInt (k : Int) (x : Bool) (a n : Int) (s : ByteArray) (w : World) : Calls Tryd.prog 21 #[vV k x a n s] w fun e w' => e = .returned (.bool (isIntB k n)) ∧ Below w.heap.size w w' := by
  have HB := Aside0.mk (Below.refl w.heap.size w)
  by_cases h1 : k = 1
  · have E := Aside0.mk (show isIntB k n = isNumB k n by unfold isIntB isNumB; simp [h1])
    have q1 : (k == 1) = true := beq_iff_eq.mpr h1
    clear h1
    go_enter Tryd.func21, Tryd.ntmps21
    go_wp2_with (go_at_call 15; ((with_reducible refine (vIsNumber k x a n s _).mono ?_); rintro e w1 ⟨rfl, hb⟩; have nHB := Aside0.mk (below_step (w := w) (by repeat (first | (with_reducible first | exact HB.out | apply below_alloc | apply pw_below_drewN | apply below_drew1) | (with_reducible refine below_set ?_ ?_) | omega)) hb); clear hb; clear HB; have HB := nHB; clear nHB; skip))
    go_ret
    exact ⟨by rw [E.out]; rfl, HB.out⟩
  · have E := Aside0.mk (show isIntB k n = false by unfold isIntB; simp [h1])
    have q1 : (k == 1) = false := beq_eq_false_iff_ne.mpr h1
    clear h1
    go_enter Tryd.func21, Tryd.ntmps21
    go_wp2
    go_ret
    exact ⟨by rw [E.out]; rfl, (by repeat (first | exact Below.refl _ _ | apply below_alloc | apply pw_below_drewN | apply below_drew1))⟩
set_option maxHeartbeats 1600000 in
set_option maxRecDepth 100000 in
theorem vValue (k : Int) (x : Bool) (a n : Int) (s : ByteArray) (h : isNumB k n = true) (w : World) : Calls Tryd.prog 27 #[vV k x a n s] w fun e w' => e = .returned (.int .i64 (sc k n)) ∧ Below w.heap.size w w' := by
  have hf := fitB_true.1 (isNumB_true.1 h).2
  clear h
  by_cases h1 : k = 1
  · have E := Aside0.mk (show sc k n = n * 65536 by unfold sc; rw [if_pos h1])
    have q1 : (k == 1) = true := beq_iff_eq.mpr h1
    clear h1
    go_enter Tryd.func27, Tryd.ntmps27
    go_wp2
    go_ret
    exact ⟨by rw [E.out]; rfl, (by repeat (first | exact Below.refl _ _ | apply below_alloc | apply pw_below_drewN | apply below_drew1))⟩
  · have E := Aside0.mk (show sc k n = n by unfold sc; rw [if_neg h1])
    have q1 : (k == 1) = false := beq_eq_false_iff_ne.mpr h1
    clear h1
    go_enter Tryd.func27, Tryd.ntmps27
    go_wp2
    go_ret
    exact ⟨by rw [E.out]; rfl, (by repeat (first | exact Below.refl _ _ | apply below_alloc | apply pw_below_drewN | apply below_drew1))⟩
theorem rFromInt_eq (n : Int) : mezzotintref01_FromInt.f n = some (asR 1 n) := by
  unfold mezzotintref01_FromInt.f asR
  rw [if_pos rfl]
  by_cases h1 : n < -32768
  · rw [if_pos h1, if_neg (by omega)]
  · by_cases h2 : n > 32767
    · rw [if_neg h1, if_pos h2, if_neg (by omega)]
    · rw [if_neg h1, if_neg h2, if_pos (by omega), w64 (by omega) (by omega)]
set_option maxHeartbeats 1600000 in
set_option maxRecDepth 100000 in
theorem vAsReal (k : Int) (x : Bool) (a n : Int) (s : ByteArray) (w : World) : Calls Tryd.prog 29 #[vV k x a n s] w fun e w' => e = .returned (.tuple #[.int .i64 (asR k n).1, .int .i64 (asR k n).2]) ∧ Below w.heap.size w w' := by
  by_cases h1 : k = 1
  · have E := Aside0.mk (show asR k n = asR 1 n by rw [h1])
    have q1 : (k == 1) = true := beq_iff_eq.mpr h1
    clear h1
    rw [E.out]
    go_enter Tryd.func29, Tryd.ntmps29
    go_wp2_with (go_at_call 58; ((with_reducible refine (mezzotintref01_FromInt.calls n _ _ _ (rFromInt_eq n)).mono ?_); rintro e w' ⟨rfl, ⟨nd, rfl⟩⟩))
    go_ret2
    exact ⟨rfl, (by repeat (first | exact Below.refl _ _ | apply below_alloc | apply pw_below_drewN | apply below_drew1))⟩
  · have E := Aside0.mk (show asR k n = (n, 0) by unfold asR; rw [if_neg h1])
    have q1 : (k == 1) = false := beq_eq_false_iff_ne.mpr h1
    clear h1
    rw [E.out]
    go_enter Tryd.func29, Tryd.ntmps29
    go_wp2
    go_ret2
    exact ⟨rfl, (by repeat (first | exact Below.refl _ _ | apply below_alloc | apply pw_below_drewN | apply below_drew1))⟩
set_option maxHeartbeats 1600000 in
set_option maxRecDepth 100000 in
theorem vOne (k n : Int) (w : World) : Calls Tryd.prog 19 #[vP k n] w (GotV w ⟨k, n, 0⟩) := by
  go_enter Tryd.func19, Tryd.ntmps19
  go_wp2
  go_ret2
  exact ⟨w.heap.size + 1, rfl, by omega, (by repeat (first | ((with_reducible refine Has.new _ _ _ ?_); (simp; done)) | (with_reducible first | apply Has.alloc | apply Has.drewN))), (by repeat (first | exact Below.refl _ _ | apply below_alloc | apply pw_below_drewN | apply below_drew1))⟩
set_option maxHeartbeats 1600000 in
set_option maxRecDepth 100000 in
theorem vGivesOk (n e0 : Int) (he : e0 = 0) (w : World) : Calls Tryd.prog 30 #[.int .i64 n, .int .i64 e0] w (GotV w ⟨2, n, 0⟩) := by
  subst he
  have HB := Aside0.mk (Below.refl w.heap.size w)
  go_enter Tryd.func30, Tryd.ntmps30
  go_wp2_with (go_at_call 55; ((with_reducible refine (vReal _ _).mono ?_); rintro e w1 ⟨rfl, hb⟩; have nHB := Aside0.mk (below_step (w := w) (by repeat (first | (with_reducible first | exact HB.out | apply below_alloc | apply pw_below_drewN | apply below_drew1) | (with_reducible refine below_set ?_ ?_) | omega)) hb); clear hb; clear HB; have HB := nHB; clear nHB; skip))
  go_ret2
  exact ⟨w1.heap.size, rfl, HB.out.size, (by repeat (first | ((with_reducible refine Has.new _ _ _ ?_); (simp; done)) | (with_reducible first | apply Has.alloc | apply Has.drewN))), (by repeat (first | (with_reducible first | exact HB.out | apply below_alloc | apply pw_below_drewN | apply below_drew1) | (with_reducible refine below_set ?_ ?_) | omega))⟩
set_option maxHeartbeats 1600000 in
set_option maxRecDepth 100000 in
theorem vGivesNo (n e0 : Int) (he : e0 ≠ 0) (w : World) : Calls Tryd.prog 30 #[.int .i64 n, .int .i64 e0] w (Fails w e0) := by
  have q : (e0 != 0) = true := bne_iff_ne.mpr he
  clear he
  go_enter Tryd.func30, Tryd.ntmps30
  go_wp2
  go_ret2
  exact ⟨rfl, Below.refl _ _⟩
end Go.Proofs.YtmbnlklinmmkdaaDoor.One
