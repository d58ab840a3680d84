import Derived.Test.YtmbnlklinmmkdaaDoorRInt
import Derived.Test.YtmbnlklinmmkdaaDoorRWh
namespace Go.Proofs.YtmbnlklinmmkdaaDoor.One
open Go.RowKit Go.Proofs.YtmbnlklinmmkdaaDoorW.PrintWords Go.Proofs.YtmbnlklinmmkdaaDoorW.PrintLast Go.Proofs.YtmbnlklinmmkdaaDoorW.PrintMore
open Go.Proofs.YtmbnlklinmmkdaaDoor.Ref Go.Proofs.YtmbnlklinmmkdaaDoor.Bitw Go.Proofs.YtmbnlklinmmkdaaDoor.Sem Go.Proofs.YtmbnlklinmmkdaaDoor.Base Go.Proofs.YtmbnlklinmmkdaaDoor.Pure Go.Proofs.YtmbnlklinmmkdaaDoor.Leaf Go.Proofs.YtmbnlklinmmkdaaDoor.Turns Go.Proofs.YtmbnlklinmmkdaaDoor.MatA Go.Proofs.YtmbnlklinmmkdaaDoor.PArithDoes
set_option linter.unusedVariables false
set_option maxHeartbeats 3200000 in
set_option maxRecDepth 100000 in
theorem uNegW (nm : ByteArray) (k : Int) (x : Bool) (a n : Int) (s : ByteArray) (w : World) (hq : ((nm.toList == [110, 101, 103]) = true ∧ (nm.toList == [97, 98, 115]) = false) ∨ ((nm.toList == [110, 101, 103]) = false ∧ (nm.toList == [97, 98, 115]) = true ∧ decide (n ≥ 0) = false)) (hk : ((k == 1) = true)) (h1 : -2147483648 ≤ n) (h2 : n ≤ 2147483647) (hs : fitB (-n) = true) : Calls Tryd.prog 23 #[.string nm, vV k x a n s] w (GotV w ⟨1, -n, 0⟩) := by
  have HB := Aside0.mk (Below.refl w.heap.size w)
  have HV := Aside0.mk (show Has (w.alloc (.cells (vC k x a n s) 35)) (w.heap.size) (vC k x a n s) 35 from Has.new _ _ _ rfl)
  rcases hq with ⟨q0, q1⟩ | ⟨q0, q1, q2⟩ <;> have k0 := hk
  all_goals
    have HSM := Aside0.mk hs
    clear hs
    go_enter Tryd.func23, Tryd.ntmps23
    go_wp2_with (first | (go_at_call 28; ((with_reducible refine (mezzotintref01_Small.calls (-n) _ _ (small_r (-n))).mono ?_); rintro e w' ⟨rfl, ⟨nd, rfl⟩⟩; rw [HSM.out])) | (go_at_call 22; ((with_reducible refine (vWhole _ _).mono ?_); rintro e w1 ⟨rfl, hb⟩; have nHV := Aside0.mk (show Has w1 (w.heap.size) (vC k x a n s) 35 from Has.below (by repeat (first | (with_reducible exact HV.out) | ((with_reducible refine Has.new _ _ _ ?_); (simp; done)) | (with_reducible first | apply Has.alloc | apply Has.drewN | apply Has.drew) | (with_reducible refine Has.far ?_ ?_ _) | (dsimp only; omega) | omega)) hb); have nHB := Aside0.mk (below_step (w := w) (by repeat (first | (with_reducible first | exact HB.out | apply below_alloc | apply pw_below_drewN | apply below_drew1) | (with_reducible refine below_set ?_ ?_) | omega)) hb); clear hb; clear HB; have HB := nHB; clear nHB; (try clear HV); have HV := nHV; clear nHV; obtain ⟨cHV0, cHV1, cHV2, cHV3, cHV4, cHV5, cHV6, cHV7, cHV8, cHV9, lHV⟩ := c10 HV.out; skip)) | (go_at_call 19; ((with_reducible refine (vOne 1 _ _).mono ?_); rintro e w2 ⟨g1, rfl, hg, hG, hb⟩; have hgg := Aside0.mk (Nat.le_trans (Below.size (show Below w.heap.size w _ from (by repeat (first | (with_reducible first | exact HB.out | apply below_alloc | apply pw_below_drewN | apply below_drew1) | (with_reducible refine below_set ?_ ?_) | omega)))) hg); have HG := Aside0.mk hG; have nHB := Aside0.mk (below_step (w := w) (by repeat (first | (with_reducible first | exact HB.out | apply below_alloc | apply pw_below_drewN | apply below_drew1) | (with_reducible refine below_set ?_ ?_) | omega)) hb); clear hg hG hb; clear HB; have HB := nHB; clear nHB; skip)))
    go_ret2
    exact ⟨g1, rfl, hgg.out, HG.out, HB.out⟩
set_option maxHeartbeats 3200000 in
set_option maxRecDepth 100000 in
theorem uNegA (nm : ByteArray) (k : Int) (x : Bool) (a n : Int) (s : ByteArray) (w : World) (hq : ((nm.toList == [110, 101, 103]) = true ∧ (nm.toList == [97, 98, 115]) = false) ∨ ((nm.toList == [110, 101, 103]) = false ∧ (nm.toList == [97, 98, 115]) = true ∧ decide (n ≥ 0) = false)) (hk : ((k == 1) = true ∧ fitB (-n) = false) ∨ ((k == 1) = false)) (h1 : -2147483648 ≤ n) (h2 : n ≤ 2147483647) (p : Int × Int) (hp0 : asR k n = p) (hp : p.2 ≠ 0) : Calls Tryd.prog 23 #[.string nm, vV k x a n s] w (Fails w p.2) := by
  have HB := Aside0.mk (Below.refl w.heap.size w)
  have HV := Aside0.mk (show Has (w.alloc (.cells (vC k x a n s) 35)) (w.heap.size) (vC k x a n s) 35 from Has.new _ _ _ rfl)
  rcases hq with ⟨q0, q1⟩ | ⟨q0, q1, q2⟩ <;> rcases hk with ⟨k0, k1⟩ | k0
  all_goals
    have AP := Aside0.mk hp0
    clear hp0
    have e0 : (p.2 != 0) = true := bne_iff_ne.mpr hp
    clear hp
    go_enter Tryd.func23, Tryd.ntmps23
    go_wp2_with (first | (first | (go_at_call 28; ((with_reducible refine (mezzotintref01_Small.calls (-n) _ _ (small_r (-n))).mono ?_); rintro e w' ⟨rfl, ⟨nd, rfl⟩⟩; rw [k1]))) | (go_at_call 29; ((with_reducible refine (vAsReal k x a n s _).mono ?_); rintro e w1 ⟨rfl, hb⟩; rw [AP.out]; have nHB := Aside0.mk (below_step (w := w) (by repeat (first | (with_reducible first | exact HB.out | apply below_alloc | apply pw_below_drewN | apply below_drew1) | (with_reducible refine below_set ?_ ?_) | omega)) hb); clear hb; clear HB; have HB := nHB; clear nHB; skip)))
    go_ret2
    exact ⟨rfl, HB.out⟩
set_option maxHeartbeats 3200000 in
set_option maxRecDepth 100000 in
theorem uNegOk (nm : ByteArray) (k : Int) (x : Bool) (a n : Int) (s : ByteArray) (w : World) (hq : ((nm.toList == [110, 101, 103]) = true ∧ (nm.toList == [97, 98, 115]) = false) ∨ ((nm.toList == [110, 101, 103]) = false ∧ (nm.toList == [97, 98, 115]) = true ∧ decide (n ≥ 0) = false)) (hk : ((k == 1) = true ∧ fitB (-n) = false) ∨ ((k == 1) = false)) (h1 : -2147483648 ≤ n) (h2 : n ≤ 2147483647) (p : Int × Int) (hp0 : asR k n = p) (hp : p.2 = 0) (q : Int × Int) (hq0 : subR 0 p.1 = q) (hq2 : q.2 = 0) : Calls Tryd.prog 23 #[.string nm, vV k x a n s] w (GotV w ⟨2, q.1, 0⟩) := by
  have HB := Aside0.mk (Below.refl w.heap.size w)
  have HV := Aside0.mk (show Has (w.alloc (.cells (vC k x a n s) 35)) (w.heap.size) (vC k x a n s) 35 from Has.new _ _ _ rfl)
  rcases hq with ⟨q0, q1⟩ | ⟨q0, q1, q2⟩ <;> rcases hk with ⟨k0, k1⟩ | k0
  all_goals
    have AP := Aside0.mk hp0
    clear hp0
    have e0 : (p.2 != 0) = false := bne_eq_false_iff_eq.mpr hp
    clear hp
    have AQ := Aside0.mk hq0
    have HQ2 := Aside0.mk hq2
    clear hq0 hq2
    go_enter Tryd.func23, Tryd.ntmps23
    go_wp2_with (first | (first | (go_at_call 28; ((with_reducible refine (mezzotintref01_Small.calls (-n) _ _ (small_r (-n))).mono ?_); rintro e w' ⟨rfl, ⟨nd, rfl⟩⟩; rw [k1]))) | (go_at_call 29; ((with_reducible refine (vAsReal k x a n s _).mono ?_); rintro e w1 ⟨rfl, hb⟩; rw [AP.out]; have nHB := Aside0.mk (below_step (w := w) (by repeat (first | (with_reducible first | exact HB.out | apply below_alloc | apply pw_below_drewN | apply below_drew1) | (with_reducible refine below_set ?_ ?_) | omega)) hb); clear hb; clear HB; have HB := nHB; clear nHB; skip)) | (go_at_call 32; ((with_reducible refine (rSub 0 p.1 _).mono ?_); rintro e w' ⟨rfl, ⟨nd, rfl⟩⟩; rw [AQ.out])) | (go_at_call 30; ((with_reducible refine (vGivesOk _ _ HQ2.out _).mono ?_); rintro e w2 ⟨g1, rfl, hg, hG, hb⟩; have hgg := Aside0.mk (Nat.le_trans (Below.size (show Below w.heap.size w _ from (by repeat (first | (with_reducible first | exact HB.out | apply below_alloc | apply pw_below_drewN | apply below_drew1) | (with_reducible refine below_set ?_ ?_) | omega)))) hg); have HG := Aside0.mk hG; have nHB := Aside0.mk (below_step (w := w) (by repeat (first | (with_reducible first | exact HB.out | apply below_alloc | apply pw_below_drewN | apply below_drew1) | (with_reducible refine below_set ?_ ?_) | omega)) hb); clear hg hG hb; clear HB; have HB := nHB; clear nHB; skip)))
    go_ret2
    exact ⟨g1, rfl, hgg.out, HG.out, HB.out⟩
set_option maxHeartbeats 3200000 in
set_option maxRecDepth 100000 in
theorem uNegNo (nm : ByteArray) (k : Int) (x : Bool) (a n : Int) (s : ByteArray) (w : World) (hq : ((nm.toList == [110, 101, 103]) = true ∧ (nm.toList == [97, 98, 115]) = false) ∨ ((nm.toList == [110, 101, 103]) = false ∧ (nm.toList == [97, 98, 115]) = true ∧ decide (n ≥ 0) = false)) (hk : ((k == 1) = true ∧ fitB (-n) = false) ∨ ((k == 1) = false)) (h1 : -2147483648 ≤ n) (h2 : n ≤ 2147483647) (p : Int × Int) (hp0 : asR k n = p) (hp : p.2 = 0) (q : Int × Int) (hq0 : subR 0 p.1 = q) (hq2 : q.2 ≠ 0) : Calls Tryd.prog 23 #[.string nm, vV k x a n s] w (Fails w q.2) := by
  have HB := Aside0.mk (Below.refl w.heap.size w)
  have HV := Aside0.mk (show Has (w.alloc (.cells (vC k x a n s) 35)) (w.heap.size) (vC k x a n s) 35 from Has.new _ _ _ rfl)
  rcases hq with ⟨q0, q1⟩ | ⟨q0, q1, q2⟩ <;> rcases hk with ⟨k0, k1⟩ | k0
  all_goals
    have AP := Aside0.mk hp0
    clear hp0
    have e0 : (p.2 != 0) = false := bne_eq_false_iff_eq.mpr hp
    clear hp
    have AQ := Aside0.mk hq0
    have HQ2 := Aside0.mk hq2
    clear hq0 hq2
    go_enter Tryd.func23, Tryd.ntmps23
    go_wp2_with (first | (first | (go_at_call 28; ((with_reducible refine (mezzotintref01_Small.calls (-n) _ _ (small_r (-n))).mono ?_); rintro e w' ⟨rfl, ⟨nd, rfl⟩⟩; rw [k1]))) | (go_at_call 29; ((with_reducible refine (vAsReal k x a n s _).mono ?_); rintro e w1 ⟨rfl, hb⟩; rw [AP.out]; have nHB := Aside0.mk (below_step (w := w) (by repeat (first | (with_reducible first | exact HB.out | apply below_alloc | apply pw_below_drewN | apply below_drew1) | (with_reducible refine below_set ?_ ?_) | omega)) hb); clear hb; clear HB; have HB := nHB; clear nHB; skip)) | (go_at_call 32; ((with_reducible refine (rSub 0 p.1 _).mono ?_); rintro e w' ⟨rfl, ⟨nd, rfl⟩⟩; rw [AQ.out])) | (go_at_call 30; ((with_reducible refine (vGivesNo _ _ HQ2.out _).mono ?_); rintro e w2 ⟨rfl, hb⟩; have nHB := Aside0.mk (below_step (w := w) (by repeat (first | (with_reducible first | exact HB.out | apply below_alloc | apply pw_below_drewN | apply below_drew1) | (with_reducible refine below_set ?_ ?_) | omega)) hb); clear hb; clear HB; have HB := nHB; clear nHB; skip)))
    go_ret2
    exact ⟨rfl, HB.out⟩
set_option maxHeartbeats 3200000 in
set_option maxRecDepth 100000 in
theorem uAbs (nm : ByteArray) (k : Int) (x : Bool) (a n : Int) (s : ByteArray) (w : World) (hq : ((nm.toList == [110, 101, 103]) = false ∧ (nm.toList == [97, 98, 115]) = true ∧ decide (n ≥ 0) = true)) : Calls Tryd.prog 23 #[.string nm, vV k x a n s] w (GotV w ⟨k, n, 0⟩) := by
  have HB := Aside0.mk (Below.refl w.heap.size w)
  have HV := Aside0.mk (show Has (w.alloc (.cells (vC k x a n s) 35)) (w.heap.size) (vC k x a n s) 35 from Has.new _ _ _ rfl)
  obtain ⟨q0, q1, q2⟩ := hq
  all_goals
    go_enter Tryd.func23, Tryd.ntmps23
    go_wp2_with (go_at_call 19; ((with_reducible refine (vOne k n _).mono ?_); rintro e w1 ⟨g1, rfl, hg, hG, hb⟩; have hgg := Aside0.mk (Nat.le_trans (Below.size (show Below w.heap.size w _ from (by repeat (first | (with_reducible first | exact HB.out | apply below_alloc | apply pw_below_drewN | apply below_drew1) | (with_reducible refine below_set ?_ ?_) | omega)))) hg); have HG := Aside0.mk hG; have nHB := Aside0.mk (below_step (w := w) (by repeat (first | (with_reducible first | exact HB.out | apply below_alloc | apply pw_below_drewN | apply below_drew1) | (with_reducible refine below_set ?_ ?_) | omega)) hb); clear hg hG hb; clear HB; have HB := nHB; clear nHB; skip))
    go_ret2
    exact ⟨g1, rfl, hgg.out, HG.out, HB.out⟩
set_option maxHeartbeats 3200000 in
set_option maxRecDepth 100000 in
theorem uCurA (nm : ByteArray) (k : Int) (x : Bool) (a n : Int) (s : ByteArray) (w : World) (hq : ((nm.toList == [110, 101, 103]) = false ∧ (nm.toList == [97, 98, 115]) = false ∧ (nm.toList == [115, 113, 114, 116]) = true) ∨ ((nm.toList == [110, 101, 103]) = false ∧ (nm.toList == [97, 98, 115]) = false ∧ (nm.toList == [115, 113, 114, 116]) = false ∧ (nm.toList == [115, 105, 110]) = true) ∨ ((nm.toList == [110, 101, 103]) = false ∧ (nm.toList == [97, 98, 115]) = false ∧ (nm.toList == [115, 113, 114, 116]) = false ∧ (nm.toList == [115, 105, 110]) = false ∧ (nm.toList == [99, 111, 115]) = true)) (p : Int × Int) (hp0 : asR k n = p) (hp : p.2 ≠ 0) : Calls Tryd.prog 23 #[.string nm, vV k x a n s] w (Fails w p.2) := by
  have HB := Aside0.mk (Below.refl w.heap.size w)
  have HV := Aside0.mk (show Has (w.alloc (.cells (vC k x a n s) 35)) (w.heap.size) (vC k x a n s) 35 from Has.new _ _ _ rfl)
  rcases hq with ⟨q0, q1, q2⟩ | ⟨q0, q1, q2, q3⟩ | ⟨q0, q1, q2, q3, q4⟩
  all_goals
    have AP := Aside0.mk hp0
    clear hp0
    have e0 : (p.2 != 0) = true := bne_iff_ne.mpr hp
    clear hp
    go_enter Tryd.func23, Tryd.ntmps23
    go_wp2_with (go_at_call 29; ((with_reducible refine (vAsReal k x a n s _).mono ?_); rintro e w1 ⟨rfl, hb⟩; rw [AP.out]; have nHB := Aside0.mk (below_step (w := w) (by repeat (first | (with_reducible first | exact HB.out | apply below_alloc | apply pw_below_drewN | apply below_drew1) | (with_reducible refine below_set ?_ ?_) | omega)) hb); clear hb; clear HB; have HB := nHB; clear nHB; skip))
    go_ret2
    exact ⟨rfl, HB.out⟩
set_option maxHeartbeats 3200000 in
set_option maxRecDepth 100000 in
theorem uSqrtOk (nm : ByteArray) (k : Int) (x : Bool) (a n : Int) (s : ByteArray) (w : World) (hq : ((nm.toList == [110, 101, 103]) = false ∧ (nm.toList == [97, 98, 115]) = false ∧ (nm.toList == [115, 113, 114, 116]) = true)) (p : Int × Int) (hp0 : asR k n = p) (hp : p.2 = 0) (q : Int × Int) (hq0 : sqrtR p.1 = q) (hq2 : q.2 = 0) : Calls Tryd.prog 23 #[.string nm, vV k x a n s] w (GotV w ⟨2, q.1, 0⟩) := by
  have HB := Aside0.mk (Below.refl w.heap.size w)
  have HV := Aside0.mk (show Has (w.alloc (.cells (vC k x a n s) 35)) (w.heap.size) (vC k x a n s) 35 from Has.new _ _ _ rfl)
  obtain ⟨q0, q1, q2⟩ := hq
  all_goals
    have AP := Aside0.mk hp0
    clear hp0
    have e0 : (p.2 != 0) = false := bne_eq_false_iff_eq.mpr hp
    clear hp
    have AQ := Aside0.mk hq0
    have HQ2 := Aside0.mk hq2
    clear hq0 hq2
    go_enter Tryd.func23, Tryd.ntmps23
    go_wp2_with (first | (go_at_call 29; ((with_reducible refine (vAsReal k x a n s _).mono ?_); rintro e w1 ⟨rfl, hb⟩; rw [AP.out]; have nHB := Aside0.mk (below_step (w := w) (by repeat (first | (with_reducible first | exact HB.out | apply below_alloc | apply pw_below_drewN | apply below_drew1) | (with_reducible refine below_set ?_ ?_) | omega)) hb); clear hb; clear HB; have HB := nHB; clear nHB; skip)) | (go_at_call 51; ((with_reducible refine (rSqrt p.1 _).mono ?_); rintro e w' ⟨rfl, ⟨nd, rfl⟩⟩; rw [AQ.out])) | (go_at_call 30; ((with_reducible refine (vGivesOk _ _ HQ2.out _).mono ?_); rintro e w2 ⟨g1, rfl, hg, hG, hb⟩; have hgg := Aside0.mk (Nat.le_trans (Below.size (show Below w.heap.size w _ from (by repeat (first | (with_reducible first | exact HB.out | apply below_alloc | apply pw_below_drewN | apply below_drew1) | (with_reducible refine below_set ?_ ?_) | omega)))) hg); have HG := Aside0.mk hG; have nHB := Aside0.mk (below_step (w := w) (by repeat (first | (with_reducible first | exact HB.out | apply below_alloc | apply pw_below_drewN | apply below_drew1) | (with_reducible refine below_set ?_ ?_) | omega)) hb); clear hg hG hb; clear HB; have HB := nHB; clear nHB; skip)))
    go_ret2
    exact ⟨g1, rfl, hgg.out, HG.out, HB.out⟩
set_option maxHeartbeats 3200000 in
set_option maxRecDepth 100000 in
theorem uSinOk (nm : ByteArray) (k : Int) (x : Bool) (a n : Int) (s : ByteArray) (w : World) (hq : ((nm.toList == [110, 101, 103]) = false ∧ (nm.toList == [97, 98, 115]) = false ∧ (nm.toList == [115, 113, 114, 116]) = false ∧ (nm.toList == [115, 105, 110]) = true)) (p : Int × Int) (hp0 : asR k n = p) (hp : p.2 = 0) (q : R6) (hq0 : rotM p.1 = q) (hq2 : q.s = 0) : Calls Tryd.prog 23 #[.string nm, vV k x a n s] w (GotV w ⟨2, q.b, 0⟩) := by
  have HB := Aside0.mk (Below.refl w.heap.size w)
  have HV := Aside0.mk (show Has (w.alloc (.cells (vC k x a n s) 35)) (w.heap.size) (vC k x a n s) 35 from Has.new _ _ _ rfl)
  obtain ⟨q0, q1, q2, q3⟩ := hq
  all_goals
    have AP := Aside0.mk hp0
    clear hp0
    have e0 : (p.2 != 0) = false := bne_eq_false_iff_eq.mpr hp
    clear hp
    have AQ := Aside0.mk hq0
    have HQ2 := Aside0.mk hq2
    clear hq0 hq2
    go_enter Tryd.func23, Tryd.ntmps23
    go_wp2_with (first | (go_at_call 29; ((with_reducible refine (vAsReal k x a n s _).mono ?_); rintro e w1 ⟨rfl, hb⟩; rw [AP.out]; have nHB := Aside0.mk (below_step (w := w) (by repeat (first | (with_reducible first | exact HB.out | apply below_alloc | apply pw_below_drewN | apply below_drew1) | (with_reducible refine below_set ?_ ?_) | omega)) hb); clear hb; clear HB; have HB := nHB; clear nHB; skip)) | (go_at_call 52; ((with_reducible refine (rRotate p.1 _).mono ?_); rintro e wr ⟨rfl, hb⟩; rw [AQ.out]; have nHB := Aside0.mk (below_step (w := w) (by repeat (first | (with_reducible first | exact HB.out | apply below_alloc | apply pw_below_drewN | apply below_drew1) | (with_reducible refine below_set ?_ ?_) | omega)) hb); clear hb; clear HB; have HB := nHB; clear nHB; skip)) | (go_at_call 30; ((with_reducible refine (vGivesOk _ _ HQ2.out _).mono ?_); rintro e w2 ⟨g1, rfl, hg, hG, hb⟩; have hgg := Aside0.mk (Nat.le_trans (Below.size (show Below w.heap.size w _ from (by repeat (first | (with_reducible first | exact HB.out | apply below_alloc | apply pw_below_drewN | apply below_drew1) | (with_reducible refine below_set ?_ ?_) | omega)))) hg); have HG := Aside0.mk hG; have nHB := Aside0.mk (below_step (w := w) (by repeat (first | (with_reducible first | exact HB.out | apply below_alloc | apply pw_below_drewN | apply below_drew1) | (with_reducible refine below_set ?_ ?_) | omega)) hb); clear hg hG hb; clear HB; have HB := nHB; clear nHB; skip)))
    go_ret2
    exact ⟨g1, rfl, hgg.out, HG.out, HB.out⟩
set_option maxHeartbeats 3200000 in
set_option maxRecDepth 100000 in
theorem uCosOk (nm : ByteArray) (k : Int) (x : Bool) (a n : Int) (s : ByteArray) (w : World) (hq : ((nm.toList == [110, 101, 103]) = false ∧ (nm.toList == [97, 98, 115]) = false ∧ (nm.toList == [115, 113, 114, 116]) = false ∧ (nm.toList == [115, 105, 110]) = false ∧ (nm.toList == [99, 111, 115]) = true)) (p : Int × Int) (hp0 : asR k n = p) (hp : p.2 = 0) (q : R6) (hq0 : rotM p.1 = q) (hq2 : q.s = 0) : Calls Tryd.prog 23 #[.string nm, vV k x a n s] w (GotV w ⟨2, q.a, 0⟩) := by
  have HB := Aside0.mk (Below.refl w.heap.size w)
  have HV := Aside0.mk (show Has (w.alloc (.cells (vC k x a n s) 35)) (w.heap.size) (vC k x a n s) 35 from Has.new _ _ _ rfl)
  obtain ⟨q0, q1, q2, q3, q4⟩ := hq
  all_goals
    have AP := Aside0.mk hp0
    clear hp0
    have e0 : (p.2 != 0) = false := bne_eq_false_iff_eq.mpr hp
    clear hp
    have AQ := Aside0.mk hq0
    have HQ2 := Aside0.mk hq2
    clear hq0 hq2
    go_enter Tryd.func23, Tryd.ntmps23
    go_wp2_with (first | (go_at_call 29; ((with_reducible refine (vAsReal k x a n s _).mono ?_); rintro e w1 ⟨rfl, hb⟩; rw [AP.out]; have nHB := Aside0.mk (below_step (w := w) (by repeat (first | (with_reducible first | exact HB.out | apply below_alloc | apply pw_below_drewN | apply below_drew1) | (with_reducible refine below_set ?_ ?_) | omega)) hb); clear hb; clear HB; have HB := nHB; clear nHB; skip)) | (go_at_call 52; ((with_reducible refine (rRotate p.1 _).mono ?_); rintro e wr ⟨rfl, hb⟩; rw [AQ.out]; have nHB := Aside0.mk (below_step (w := w) (by repeat (first | (with_reducible first | exact HB.out | apply below_alloc | apply pw_below_drewN | apply below_drew1) | (with_reducible refine below_set ?_ ?_) | omega)) hb); clear hb; clear HB; have HB := nHB; clear nHB; skip)) | (go_at_call 30; ((with_reducible refine (vGivesOk _ _ HQ2.out _).mono ?_); rintro e w2 ⟨g1, rfl, hg, hG, hb⟩; have hgg := Aside0.mk (Nat.le_trans (Below.size (show Below w.heap.size w _ from (by repeat (first | (with_reducible first | exact HB.out | apply below_alloc | apply pw_below_drewN | apply below_drew1) | (with_reducible refine below_set ?_ ?_) | omega)))) hg); have HG := Aside0.mk hG; have nHB := Aside0.mk (below_step (w := w) (by repeat (first | (with_reducible first | exact HB.out | apply below_alloc | apply pw_below_drewN | apply below_drew1) | (with_reducible refine below_set ?_ ?_) | omega)) hb); clear hg hG hb; clear HB; have HB := nHB; clear nHB; skip)))
    go_ret2
    exact ⟨g1, rfl, hgg.out, HG.out, HB.out⟩
set_option maxHeartbeats 3200000 in
set_option maxRecDepth 100000 in
theorem uSqrtNo (nm : ByteArray) (k : Int) (x : Bool) (a n : Int) (s : ByteArray) (w : World) (hq : ((nm.toList == [110, 101, 103]) = false ∧ (nm.toList == [97, 98, 115]) = false ∧ (nm.toList == [115, 113, 114, 116]) = true)) (p : Int × Int) (hp0 : asR k n = p) (hp : p.2 = 0) (q : Int × Int) (hq0 : sqrtR p.1 = q) (hq2 : q.2 ≠ 0) : Calls Tryd.prog 23 #[.string nm, vV k x a n s] w (Fails w q.2) := by
  have HB := Aside0.mk (Below.refl w.heap.size w)
  have HV := Aside0.mk (show Has (w.alloc (.cells (vC k x a n s) 35)) (w.heap.size) (vC k x a n s) 35 from Has.new _ _ _ rfl)
  obtain ⟨q0, q1, q2⟩ := hq
  all_goals
    have AP := Aside0.mk hp0
    clear hp0
    have e0 : (p.2 != 0) = false := bne_eq_false_iff_eq.mpr hp
    clear hp
    have AQ := Aside0.mk hq0
    have HQ2 := Aside0.mk hq2
    clear hq0 hq2
    go_enter Tryd.func23, Tryd.ntmps23
    go_wp2_with (first | (go_at_call 29; ((with_reducible refine (vAsReal k x a n s _).mono ?_); rintro e w1 ⟨rfl, hb⟩; rw [AP.out]; have nHB := Aside0.mk (below_step (w := w) (by repeat (first | (with_reducible first | exact HB.out | apply below_alloc | apply pw_below_drewN | apply below_drew1) | (with_reducible refine below_set ?_ ?_) | omega)) hb); clear hb; clear HB; have HB := nHB; clear nHB; skip)) | (go_at_call 51; ((with_reducible refine (rSqrt p.1 _).mono ?_); rintro e w' ⟨rfl, ⟨nd, rfl⟩⟩; rw [AQ.out])) | (go_at_call 30; ((with_reducible refine (vGivesNo _ _ HQ2.out _).mono ?_); rintro e w2 ⟨rfl, hb⟩; have nHB := Aside0.mk (below_step (w := w) (by repeat (first | (with_reducible first | exact HB.out | apply below_alloc | apply pw_below_drewN | apply below_drew1) | (with_reducible refine below_set ?_ ?_) | omega)) hb); clear hb; clear HB; have HB := nHB; clear nHB; skip)))
    go_ret2
    exact ⟨rfl, HB.out⟩
set_option maxHeartbeats 3200000 in
set_option maxRecDepth 100000 in
theorem uSinNo (nm : ByteArray) (k : Int) (x : Bool) (a n : Int) (s : ByteArray) (w : World) (hq : ((nm.toList == [110, 101, 103]) = false ∧ (nm.toList == [97, 98, 115]) = false ∧ (nm.toList == [115, 113, 114, 116]) = false ∧ (nm.toList == [115, 105, 110]) = true)) (p : Int × Int) (hp0 : asR k n = p) (hp : p.2 = 0) (q : R6) (hq0 : rotM p.1 = q) (hq2 : q.s ≠ 0) : Calls Tryd.prog 23 #[.string nm, vV k x a n s] w (Fails w q.s) := by
  have HB := Aside0.mk (Below.refl w.heap.size w)
  have HV := Aside0.mk (show Has (w.alloc (.cells (vC k x a n s) 35)) (w.heap.size) (vC k x a n s) 35 from Has.new _ _ _ rfl)
  obtain ⟨q0, q1, q2, q3⟩ := hq
  all_goals
    have AP := Aside0.mk hp0
    clear hp0
    have e0 : (p.2 != 0) = false := bne_eq_false_iff_eq.mpr hp
    clear hp
    have AQ := Aside0.mk hq0
    have HQ2 := Aside0.mk hq2
    clear hq0 hq2
    go_enter Tryd.func23, Tryd.ntmps23
    go_wp2_with (first | (go_at_call 29; ((with_reducible refine (vAsReal k x a n s _).mono ?_); rintro e w1 ⟨rfl, hb⟩; rw [AP.out]; have nHB := Aside0.mk (below_step (w := w) (by repeat (first | (with_reducible first | exact HB.out | apply below_alloc | apply pw_below_drewN | apply below_drew1) | (with_reducible refine below_set ?_ ?_) | omega)) hb); clear hb; clear HB; have HB := nHB; clear nHB; skip)) | (go_at_call 52; ((with_reducible refine (rRotate p.1 _).mono ?_); rintro e wr ⟨rfl, hb⟩; rw [AQ.out]; have nHB := Aside0.mk (below_step (w := w) (by repeat (first | (with_reducible first | exact HB.out | apply below_alloc | apply pw_below_drewN | apply below_drew1) | (with_reducible refine below_set ?_ ?_) | omega)) hb); clear hb; clear HB; have HB := nHB; clear nHB; skip)) | (go_at_call 30; ((with_reducible refine (vGivesNo _ _ HQ2.out _).mono ?_); rintro e w2 ⟨rfl, hb⟩; have nHB := Aside0.mk (below_step (w := w) (by repeat (first | (with_reducible first | exact HB.out | apply below_alloc | apply pw_below_drewN | apply below_drew1) | (with_reducible refine below_set ?_ ?_) | omega)) hb); clear hb; clear HB; have HB := nHB; clear nHB; skip)))
    go_ret2
    exact ⟨rfl, HB.out⟩
set_option maxHeartbeats 3200000 in
set_option maxRecDepth 100000 in
theorem uCosNo (nm : ByteArray) (k : Int) (x : Bool) (a n : Int) (s : ByteArray) (w : World) (hq : ((nm.toList == [110, 101, 103]) = false ∧ (nm.toList == [97, 98, 115]) = false ∧ (nm.toList == [115, 113, 114, 116]) = false ∧ (nm.toList == [115, 105, 110]) = false ∧ (nm.toList == [99, 111, 115]) = true)) (p : Int × Int) (hp0 : asR k n = p) (hp : p.2 = 0) (q : R6) (hq0 : rotM p.1 = q) (hq2 : q.s ≠ 0) : Calls Tryd.prog 23 #[.string nm, vV k x a n s] w (Fails w q.s) := by
  have HB := Aside0.mk (Below.refl w.heap.size w)
  have HV := Aside0.mk (show Has (w.alloc (.cells (vC k x a n s) 35)) (w.heap.size) (vC k x a n s) 35 from Has.new _ _ _ rfl)
  obtain ⟨q0, q1, q2, q3, q4⟩ := hq
  all_goals
    have AP := Aside0.mk hp0
    clear hp0
    have e0 : (p.2 != 0) = false := bne_eq_false_iff_eq.mpr hp
    clear hp
    have AQ := Aside0.mk hq0
    have HQ2 := Aside0.mk hq2
    clear hq0 hq2
    go_enter Tryd.func23, Tryd.ntmps23
    go_wp2_with (first | (go_at_call 29; ((with_reducible refine (vAsReal k x a n s _).mono ?_); rintro e w1 ⟨rfl, hb⟩; rw [AP.out]; have nHB := Aside0.mk (below_step (w := w) (by repeat (first | (with_reducible first | exact HB.out | apply below_alloc | apply pw_below_drewN | apply below_drew1) | (with_reducible refine below_set ?_ ?_) | omega)) hb); clear hb; clear HB; have HB := nHB; clear nHB; skip)) | (go_at_call 52; ((with_reducible refine (rRotate p.1 _).mono ?_); rintro e wr ⟨rfl, hb⟩; rw [AQ.out]; have nHB := Aside0.mk (below_step (w := w) (by repeat (first | (with_reducible first | exact HB.out | apply below_alloc | apply pw_below_drewN | apply below_drew1) | (with_reducible refine below_set ?_ ?_) | omega)) hb); clear hb; clear HB; have HB := nHB; clear nHB; skip)) | (go_at_call 30; ((with_reducible refine (vGivesNo _ _ HQ2.out _).mono ?_); rintro e w2 ⟨rfl, hb⟩; have nHB := Aside0.mk (below_step (w := w) (by repeat (first | (with_reducible first | exact HB.out | apply below_alloc | apply pw_below_drewN | apply below_drew1) | (with_reducible refine below_set ?_ ?_) | omega)) hb); clear hb; clear HB; have HB := nHB; clear nHB; skip)))
    go_ret2
    exact ⟨rfl, HB.out⟩
set_option maxHeartbeats 3200000 in
set_option maxRecDepth 100000 in
theorem uWhI (nm : ByteArray) (k : Int) (x : Bool) (a n : Int) (s : ByteArray) (w : World) (hq : ((nm.toList == [110, 101, 103]) = false ∧ (nm.toList == [97, 98, 115]) = false ∧ (nm.toList == [115, 113, 114, 116]) = false ∧ (nm.toList == [115, 105, 110]) = false ∧ (nm.toList == [99, 111, 115]) = false)) (hk : ((k == 1) = true)) : Calls Tryd.prog 23 #[.string nm, vV k x a n s] w (GotV w ⟨1, n, 0⟩) := by
  have HB := Aside0.mk (Below.refl w.heap.size w)
  have HV := Aside0.mk (show Has (w.alloc (.cells (vC k x a n s) 35)) (w.heap.size) (vC k x a n s) 35 from Has.new _ _ _ rfl)
  obtain ⟨q0, q1, q2, q3, q4⟩ := hq <;> have k0 := hk
  all_goals
    go_enter Tryd.func23, Tryd.ntmps23
    go_wp2_with (first | (go_at_call 22; ((with_reducible refine (vWhole _ _).mono ?_); rintro e w1 ⟨rfl, hb⟩; have nHV := Aside0.mk (show Has w1 (w.heap.size) (vC k x a n s) 35 from Has.below (by repeat (first | (with_reducible exact HV.out) | ((with_reducible refine Has.new _ _ _ ?_); (simp; done)) | (with_reducible first | apply Has.alloc | apply Has.drewN | apply Has.drew) | (with_reducible refine Has.far ?_ ?_ _) | (dsimp only; omega) | omega)) hb); have nHB := Aside0.mk (below_step (w := w) (by repeat (first | (with_reducible first | exact HB.out | apply below_alloc | apply pw_below_drewN | apply below_drew1) | (with_reducible refine below_set ?_ ?_) | omega)) hb); clear hb; clear HB; have HB := nHB; clear nHB; (try clear HV); have HV := nHV; clear nHV; obtain ⟨cHV0, cHV1, cHV2, cHV3, cHV4, cHV5, cHV6, cHV7, cHV8, cHV9, lHV⟩ := c10 HV.out; skip)) | (go_at_call 19; ((with_reducible refine (vOne 1 _ _).mono ?_); rintro e w2 ⟨g1, rfl, hg, hG, hb⟩; have hgg := Aside0.mk (Nat.le_trans (Below.size (show Below w.heap.size w _ from (by repeat (first | (with_reducible first | exact HB.out | apply below_alloc | apply pw_below_drewN | apply below_drew1) | (with_reducible refine below_set ?_ ?_) | omega)))) hg); have HG := Aside0.mk hG; have nHB := Aside0.mk (below_step (w := w) (by repeat (first | (with_reducible first | exact HB.out | apply below_alloc | apply pw_below_drewN | apply below_drew1) | (with_reducible refine below_set ?_ ?_) | omega)) hb); clear hg hG hb; clear HB; have HB := nHB; clear nHB; skip)))
    go_ret2
    exact ⟨g1, rfl, hgg.out, HG.out, HB.out⟩
set_option maxHeartbeats 3200000 in
set_option maxRecDepth 100000 in
theorem uCeilOk (nm : ByteArray) (k : Int) (x : Bool) (a n : Int) (s : ByteArray) (w : World) (hq : ((nm.toList == [110, 101, 103]) = false ∧ (nm.toList == [97, 98, 115]) = false ∧ (nm.toList == [115, 113, 114, 116]) = false ∧ (nm.toList == [115, 105, 110]) = false ∧ (nm.toList == [99, 111, 115]) = false ∧ (nm.toList == [99, 101, 105, 108, 105, 110, 103]) = true)) (hk : ((k == 1) = false)) (q : Int × Int) (hq0 : ceilR n = q) (hq2 : q.2 = 0) : Calls Tryd.prog 23 #[.string nm, vV k x a n s] w (GotV w ⟨2, q.1, 0⟩) := by
  have HB := Aside0.mk (Below.refl w.heap.size w)
  have HV := Aside0.mk (show Has (w.alloc (.cells (vC k x a n s) 35)) (w.heap.size) (vC k x a n s) 35 from Has.new _ _ _ rfl)
  obtain ⟨q0, q1, q2, q3, q4, q5⟩ := hq <;> have k0 := hk
  all_goals
    have AQ := Aside0.mk hq0
    have HQ2 := Aside0.mk hq2
    clear hq0 hq2
    go_enter Tryd.func23, Tryd.ntmps23
    go_wp2_with (first | (go_at_call 53; ((with_reducible refine (mezzotintref01_Ceiling.calls n _ _ _ (rCeiling_eq n)).mono ?_); rintro e w' ⟨rfl, ⟨nd, rfl⟩⟩; rw [AQ.out])) | (go_at_call 30; ((with_reducible refine (vGivesOk _ _ HQ2.out _).mono ?_); rintro e w2 ⟨g1, rfl, hg, hG, hb⟩; have hgg := Aside0.mk (Nat.le_trans (Below.size (show Below w.heap.size w _ from (by repeat (first | (with_reducible first | exact HB.out | apply below_alloc | apply pw_below_drewN | apply below_drew1) | (with_reducible refine below_set ?_ ?_) | omega)))) hg); have HG := Aside0.mk hG; have nHB := Aside0.mk (below_step (w := w) (by repeat (first | (with_reducible first | exact HB.out | apply below_alloc | apply pw_below_drewN | apply below_drew1) | (with_reducible refine below_set ?_ ?_) | omega)) hb); clear hg hG hb; clear HB; have HB := nHB; clear nHB; skip)))
    go_ret2
    exact ⟨g1, rfl, hgg.out, HG.out, HB.out⟩
set_option maxHeartbeats 3200000 in
set_option maxRecDepth 100000 in
theorem uCeilNo (nm : ByteArray) (k : Int) (x : Bool) (a n : Int) (s : ByteArray) (w : World) (hq : ((nm.toList == [110, 101, 103]) = false ∧ (nm.toList == [97, 98, 115]) = false ∧ (nm.toList == [115, 113, 114, 116]) = false ∧ (nm.toList == [115, 105, 110]) = false ∧ (nm.toList == [99, 111, 115]) = false ∧ (nm.toList == [99, 101, 105, 108, 105, 110, 103]) = true)) (hk : ((k == 1) = false)) (q : Int × Int) (hq0 : ceilR n = q) (hq2 : q.2 ≠ 0) : Calls Tryd.prog 23 #[.string nm, vV k x a n s] w (Fails w q.2) := by
  have HB := Aside0.mk (Below.refl w.heap.size w)
  have HV := Aside0.mk (show Has (w.alloc (.cells (vC k x a n s) 35)) (w.heap.size) (vC k x a n s) 35 from Has.new _ _ _ rfl)
  obtain ⟨q0, q1, q2, q3, q4, q5⟩ := hq <;> have k0 := hk
  all_goals
    have AQ := Aside0.mk hq0
    have HQ2 := Aside0.mk hq2
    clear hq0 hq2
    go_enter Tryd.func23, Tryd.ntmps23
    go_wp2_with (first | (go_at_call 53; ((with_reducible refine (mezzotintref01_Ceiling.calls n _ _ _ (rCeiling_eq n)).mono ?_); rintro e w' ⟨rfl, ⟨nd, rfl⟩⟩; rw [AQ.out])) | (go_at_call 30; ((with_reducible refine (vGivesNo _ _ HQ2.out _).mono ?_); rintro e w2 ⟨rfl, hb⟩; have nHB := Aside0.mk (below_step (w := w) (by repeat (first | (with_reducible first | exact HB.out | apply below_alloc | apply pw_below_drewN | apply below_drew1) | (with_reducible refine below_set ?_ ?_) | omega)) hb); clear hb; clear HB; have HB := nHB; clear nHB; skip)))
    go_ret2
    exact ⟨rfl, HB.out⟩
set_option maxHeartbeats 3200000 in
set_option maxRecDepth 100000 in
theorem uRoundOk (nm : ByteArray) (k : Int) (x : Bool) (a n : Int) (s : ByteArray) (w : World) (hq : ((nm.toList == [110, 101, 103]) = false ∧ (nm.toList == [97, 98, 115]) = false ∧ (nm.toList == [115, 113, 114, 116]) = false ∧ (nm.toList == [115, 105, 110]) = false ∧ (nm.toList == [99, 111, 115]) = false ∧ (nm.toList == [99, 101, 105, 108, 105, 110, 103]) = false ∧ (nm.toList == [114, 111, 117, 110, 100]) = true)) (hk : ((k == 1) = false)) (q : Int × Int) (hq0 : roundR n = q) (hq2 : q.2 = 0) : Calls Tryd.prog 23 #[.string nm, vV k x a n s] w (GotV w ⟨2, q.1, 0⟩) := by
  have HB := Aside0.mk (Below.refl w.heap.size w)
  have HV := Aside0.mk (show Has (w.alloc (.cells (vC k x a n s) 35)) (w.heap.size) (vC k x a n s) 35 from Has.new _ _ _ rfl)
  obtain ⟨q0, q1, q2, q3, q4, q5, q6⟩ := hq <;> have k0 := hk
  all_goals
    have AQ := Aside0.mk hq0
    have HQ2 := Aside0.mk hq2
    clear hq0 hq2
    go_enter Tryd.func23, Tryd.ntmps23
    go_wp2_with (first | (go_at_call 54; ((with_reducible refine (mezzotintref01_Round.calls n _ _ _ (rRound_eq n)).mono ?_); rintro e w' ⟨rfl, ⟨nd, rfl⟩⟩; rw [AQ.out])) | (go_at_call 30; ((with_reducible refine (vGivesOk _ _ HQ2.out _).mono ?_); rintro e w2 ⟨g1, rfl, hg, hG, hb⟩; have hgg := Aside0.mk (Nat.le_trans (Below.size (show Below w.heap.size w _ from (by repeat (first | (with_reducible first | exact HB.out | apply below_alloc | apply pw_below_drewN | apply below_drew1) | (with_reducible refine below_set ?_ ?_) | omega)))) hg); have HG := Aside0.mk hG; have nHB := Aside0.mk (below_step (w := w) (by repeat (first | (with_reducible first | exact HB.out | apply below_alloc | apply pw_below_drewN | apply below_drew1) | (with_reducible refine below_set ?_ ?_) | omega)) hb); clear hg hG hb; clear HB; have HB := nHB; clear nHB; skip)))
    go_ret2
    exact ⟨g1, rfl, hgg.out, HG.out, HB.out⟩
set_option maxHeartbeats 3200000 in
set_option maxRecDepth 100000 in
theorem uRoundNo (nm : ByteArray) (k : Int) (x : Bool) (a n : Int) (s : ByteArray) (w : World) (hq : ((nm.toList == [110, 101, 103]) = false ∧ (nm.toList == [97, 98, 115]) = false ∧ (nm.toList == [115, 113, 114, 116]) = false ∧ (nm.toList == [115, 105, 110]) = false ∧ (nm.toList == [99, 111, 115]) = false ∧ (nm.toList == [99, 101, 105, 108, 105, 110, 103]) = false ∧ (nm.toList == [114, 111, 117, 110, 100]) = true)) (hk : ((k == 1) = false)) (q : Int × Int) (hq0 : roundR n = q) (hq2 : q.2 ≠ 0) : Calls Tryd.prog 23 #[.string nm, vV k x a n s] w (Fails w q.2) := by
  have HB := Aside0.mk (Below.refl w.heap.size w)
  have HV := Aside0.mk (show Has (w.alloc (.cells (vC k x a n s) 35)) (w.heap.size) (vC k x a n s) 35 from Has.new _ _ _ rfl)
  obtain ⟨q0, q1, q2, q3, q4, q5, q6⟩ := hq <;> have k0 := hk
  all_goals
    have AQ := Aside0.mk hq0
    have HQ2 := Aside0.mk hq2
    clear hq0 hq2
    go_enter Tryd.func23, Tryd.ntmps23
    go_wp2_with (first | (go_at_call 54; ((with_reducible refine (mezzotintref01_Round.calls n _ _ _ (rRound_eq n)).mono ?_); rintro e w' ⟨rfl, ⟨nd, rfl⟩⟩; rw [AQ.out])) | (go_at_call 30; ((with_reducible refine (vGivesNo _ _ HQ2.out _).mono ?_); rintro e w2 ⟨rfl, hb⟩; have nHB := Aside0.mk (below_step (w := w) (by repeat (first | (with_reducible first | exact HB.out | apply below_alloc | apply pw_below_drewN | apply below_drew1) | (with_reducible refine below_set ?_ ?_) | omega)) hb); clear hb; clear HB; have HB := nHB; clear nHB; skip)))
    go_ret2
    exact ⟨rfl, HB.out⟩
set_option maxHeartbeats 3200000 in
set_option maxRecDepth 100000 in
theorem uFloor (nm : ByteArray) (k : Int) (x : Bool) (a n : Int) (s : ByteArray) (w : World) (hq : ((nm.toList == [110, 101, 103]) = false ∧ (nm.toList == [97, 98, 115]) = false ∧ (nm.toList == [115, 113, 114, 116]) = false ∧ (nm.toList == [115, 105, 110]) = false ∧ (nm.toList == [99, 111, 115]) = false ∧ (nm.toList == [99, 101, 105, 108, 105, 110, 103]) = false ∧ (nm.toList == [114, 111, 117, 110, 100]) = false ∧ (nm.toList == [102, 108, 111, 111, 114]) = true)) (hk : ((k == 1) = false)) : Calls Tryd.prog 23 #[.string nm, vV k x a n s] w (GotV w ⟨2, floorF n, 0⟩) := by
  have HB := Aside0.mk (Below.refl w.heap.size w)
  have HV := Aside0.mk (show Has (w.alloc (.cells (vC k x a n s) 35)) (w.heap.size) (vC k x a n s) 35 from Has.new _ _ _ rfl)
  obtain ⟨q0, q1, q2, q3, q4, q5, q6, q7⟩ := hq <;> have k0 := hk
  all_goals
    go_enter Tryd.func23, Tryd.ntmps23
    go_wp2_with (first | (go_at_call 56; ((with_reducible refine (mezzotintref01_Floor.calls n _ _ (rFloor_eq n)).mono ?_); rintro e w' ⟨rfl, ⟨nd, rfl⟩⟩)) | (go_at_call 55; ((with_reducible refine (vReal _ _).mono ?_); rintro e w1 ⟨rfl, hb⟩; have nHV := Aside0.mk (show Has w1 (w.heap.size) (vC k x a n s) 35 from Has.below (by repeat (first | (with_reducible exact HV.out) | ((with_reducible refine Has.new _ _ _ ?_); (simp; done)) | (with_reducible first | apply Has.alloc | apply Has.drewN | apply Has.drew) | (with_reducible refine Has.far ?_ ?_ _) | (dsimp only; omega) | omega)) hb); have nHB := Aside0.mk (below_step (w := w) (by repeat (first | (with_reducible first | exact HB.out | apply below_alloc | apply pw_below_drewN | apply below_drew1) | (with_reducible refine below_set ?_ ?_) | omega)) hb); clear hb; clear HB; have HB := nHB; clear nHB; (try clear HV); have HV := nHV; clear nHV; obtain ⟨cHV0, cHV1, cHV2, cHV3, cHV4, cHV5, cHV6, cHV7, cHV8, cHV9, lHV⟩ := c10 HV.out; skip)) | (go_at_call 19; ((with_reducible refine (vOne 2 _ _).mono ?_); rintro e w2 ⟨g1, rfl, hg, hG, hb⟩; have hgg := Aside0.mk (Nat.le_trans (Below.size (show Below w.heap.size w _ from (by repeat (first | (with_reducible first | exact HB.out | apply below_alloc | apply pw_below_drewN | apply below_drew1) | (with_reducible refine below_set ?_ ?_) | omega)))) hg); have HG := Aside0.mk hG; have nHB := Aside0.mk (below_step (w := w) (by repeat (first | (with_reducible first | exact HB.out | apply below_alloc | apply pw_below_drewN | apply below_drew1) | (with_reducible refine below_set ?_ ?_) | omega)) hb); clear hg hG hb; clear HB; have HB := nHB; clear nHB; skip)))
    go_ret2
    exact ⟨g1, rfl, hgg.out, HG.out, HB.out⟩
set_option maxHeartbeats 3200000 in
set_option maxRecDepth 100000 in
theorem uTrunc (nm : ByteArray) (k : Int) (x : Bool) (a n : Int) (s : ByteArray) (w : World) (hq : ((nm.toList == [110, 101, 103]) = false ∧ (nm.toList == [97, 98, 115]) = false ∧ (nm.toList == [115, 113, 114, 116]) = false ∧ (nm.toList == [115, 105, 110]) = false ∧ (nm.toList == [99, 111, 115]) = false ∧ (nm.toList == [99, 101, 105, 108, 105, 110, 103]) = false ∧ (nm.toList == [114, 111, 117, 110, 100]) = false ∧ (nm.toList == [102, 108, 111, 111, 114]) = false)) (hk : ((k == 1) = false)) : Calls Tryd.prog 23 #[.string nm, vV k x a n s] w (GotV w ⟨2, truncF n, 0⟩) := by
  have HB := Aside0.mk (Below.refl w.heap.size w)
  have HV := Aside0.mk (show Has (w.alloc (.cells (vC k x a n s) 35)) (w.heap.size) (vC k x a n s) 35 from Has.new _ _ _ rfl)
  obtain ⟨q0, q1, q2, q3, q4, q5, q6, q7⟩ := hq <;> have k0 := hk
  all_goals
    go_enter Tryd.func23, Tryd.ntmps23
    go_wp2_with (first | (go_at_call 57; ((with_reducible refine (mezzotintref01_Truncate.calls n _ _ (rTruncate_eq n)).mono ?_); rintro e w' ⟨rfl, ⟨nd, rfl⟩⟩)) | (go_at_call 55; ((with_reducible refine (vReal _ _).mono ?_); rintro e w1 ⟨rfl, hb⟩; have nHV := Aside0.mk (show Has w1 (w.heap.size) (vC k x a n s) 35 from Has.below (by repeat (first | (with_reducible exact HV.out) | ((with_reducible refine Has.new _ _ _ ?_); (simp; done)) | (with_reducible first | apply Has.alloc | apply Has.drewN | apply Has.drew) | (with_reducible refine Has.far ?_ ?_ _) | (dsimp only; omega) | omega)) hb); have nHB := Aside0.mk (below_step (w := w) (by repeat (first | (with_reducible first | exact HB.out | apply below_alloc | apply pw_below_drewN | apply below_drew1) | (with_reducible refine below_set ?_ ?_) | omega)) hb); clear hb; clear HB; have HB := nHB; clear nHB; (try clear HV); have HV := nHV; clear nHV; obtain ⟨cHV0, cHV1, cHV2, cHV3, cHV4, cHV5, cHV6, cHV7, cHV8, cHV9, lHV⟩ := c10 HV.out; skip)) | (go_at_call 19; ((with_reducible refine (vOne 2 _ _).mono ?_); rintro e w2 ⟨g1, rfl, hg, hG, hb⟩; have hgg := Aside0.mk (Nat.le_trans (Below.size (show Below w.heap.size w _ from (by repeat (first | (with_reducible first | exact HB.out | apply below_alloc | apply pw_below_drewN | apply below_drew1) | (with_reducible refine below_set ?_ ?_) | omega)))) hg); have HG := Aside0.mk hG; have nHB := Aside0.mk (below_step (w := w) (by repeat (first | (with_reducible first | exact HB.out | apply below_alloc | apply pw_below_drewN | apply below_drew1) | (with_reducible refine below_set ?_ ?_) | omega)) hb); clear hg hG hb; clear HB; have HB := nHB; clear nHB; skip)))
    go_ret2
    exact ⟨g1, rfl, hgg.out, HG.out, HB.out⟩
def Out (w : World) (r : R3) (e : Ending) (w' : World) : Prop := (r.e = 0 ∧ GotV w r e w') ∨ (r.e ≠ 0 ∧ Fails w r.e e w')
theorem out_ok {f : Nat} {args : Array Value} {w : World} {r : R3} (h0 : r.e = 0) (h : Calls Tryd.prog f args w (GotV w r)) : Calls Tryd.prog f args w (Out w r) := h.mono fun _ _ g => Or.inl ⟨h0, g⟩
theorem out_no {f : Nat} {args : Array Value} {w : World} {r : R3} (h0 : r.e ≠ 0) (h : Calls Tryd.prog f args w (Fails w r.e)) : Calls Tryd.prog f args w (Out w r) := h.mono fun _ _ g => Or.inr ⟨h0, g⟩
theorem out_is {f : Nat} {args : Array Value} {w : World} {r r' : R3} (e : r' = r) (h : Calls Tryd.prog f args w (Out w r)) : Calls Tryd.prog f args w (Out w r') := e ▸ h
theorem gv_ok {q : Int × Int} (h : q.2 = 0) : gv q = ⟨2, q.1, 0⟩ := by unfold gv; rw [if_pos h]
theorem gv_no {q : Int × Int} (h : q.2 ≠ 0) : gv q = ⟨0, 0, q.2⟩ := by unfold gv; rw [if_neg h]
theorem bind_ok {p : Int × Int} {g : Int → R3} (h : p.2 = 0) : bindR p g = g p.1 := by unfold bindR; rw [if_pos h]
theorem bind_no {p : Int × Int} {g : Int → R3} (h : p.2 ≠ 0) : bindR p g = ⟨0, 0, p.2⟩ := by unfold bindR; rw [if_neg h]
theorem rUn_neg (nm : ByteArray) (k : Int) (x : Bool) (a n : Int) (s : ByteArray) (w : World) (hm : nm.toList = Un.neg.name) (hN : isNumB k n = true) : Calls Tryd.prog 23 #[.string nm, vV k x a n s] w (Out w (N1 .neg k n)) := by
  have hb := fitB_true.1 (isNumB_true.1 hN).2
  show Calls _ _ _ _ (Out w (negR k n))
  by_cases c : (k == 1 && fitB (-n)) = true
  · have hc := Bool.and_eq_true_iff.1 c
    refine out_is (by show negR k n = _; unfold negR; rw [if_pos c]) (out_ok rfl (uNegW nm k x a n s w (Or.inl ⟨(by rw [hm]; decide), (by rw [hm]; decide)⟩) hc.1 hb.1 hb.2 hc.2))
  · have hk : ((k == 1) = true ∧ fitB (-n) = false) ∨ ((k == 1) = false) := by cases h1 : (k == 1) <;> cases h2 : fitB (-n) <;> simp [h1, h2] at c ⊢
    have e : negR k n = bindR (asR k n) fun m => gv (subR 0 m) := by unfold negR; rw [if_neg c]
    by_cases hp : (asR k n).2 = 0
    · by_cases hq : (subR 0 (asR k n).1).2 = 0
      · exact out_is (e.trans ((bind_ok hp).trans (gv_ok hq))) (out_ok rfl (uNegOk nm k x a n s w (Or.inl ⟨(by rw [hm]; decide), (by rw [hm]; decide)⟩) hk hb.1 hb.2 _ rfl hp _ rfl hq))
      · exact out_is (e.trans ((bind_ok hp).trans (gv_no hq))) (out_no hq (uNegNo nm k x a n s w (Or.inl ⟨(by rw [hm]; decide), (by rw [hm]; decide)⟩) hk hb.1 hb.2 _ rfl hp _ rfl hq))
    · exact out_is (e.trans (bind_no hp)) (out_no hp (uNegA nm k x a n s w (Or.inl ⟨(by rw [hm]; decide), (by rw [hm]; decide)⟩) hk hb.1 hb.2 _ rfl hp))
theorem rUn_abs (nm : ByteArray) (k : Int) (x : Bool) (a n : Int) (s : ByteArray) (w : World) (hm : nm.toList = Un.abs.name) (hN : isNumB k n = true) : Calls Tryd.prog 23 #[.string nm, vV k x a n s] w (Out w (N1 .abs k n)) := by
  have hb := fitB_true.1 (isNumB_true.1 hN).2
  show Calls _ _ _ _ (Out w (if n ≥ 0 then ⟨k, n, 0⟩ else negR k n))
  by_cases c0 : n ≥ 0
  · rw [if_pos c0]; exact out_ok rfl (uAbs nm k x a n s w ⟨(by rw [hm]; decide), (by rw [hm]; decide), decide_eq_true c0⟩)
  · rw [if_neg c0]
    by_cases c : (k == 1 && fitB (-n)) = true
    · have hc := Bool.and_eq_true_iff.1 c
      refine out_is (by show negR k n = _; unfold negR; rw [if_pos c]) (out_ok rfl (uNegW nm k x a n s w (Or.inr ⟨(by rw [hm]; decide), (by rw [hm]; decide), decide_eq_false c0⟩) hc.1 hb.1 hb.2 hc.2))
    · have hk : ((k == 1) = true ∧ fitB (-n) = false) ∨ ((k == 1) = false) := by cases h1 : (k == 1) <;> cases h2 : fitB (-n) <;> simp [h1, h2] at c ⊢
      have e : negR k n = bindR (asR k n) fun m => gv (subR 0 m) := by unfold negR; rw [if_neg c]
      by_cases hp : (asR k n).2 = 0
      · by_cases hq : (subR 0 (asR k n).1).2 = 0
        · exact out_is (e.trans ((bind_ok hp).trans (gv_ok hq))) (out_ok rfl (uNegOk nm k x a n s w (Or.inr ⟨(by rw [hm]; decide), (by rw [hm]; decide), decide_eq_false c0⟩) hk hb.1 hb.2 _ rfl hp _ rfl hq))
        · exact out_is (e.trans ((bind_ok hp).trans (gv_no hq))) (out_no hq (uNegNo nm k x a n s w (Or.inr ⟨(by rw [hm]; decide), (by rw [hm]; decide), decide_eq_false c0⟩) hk hb.1 hb.2 _ rfl hp _ rfl hq))
      · exact out_is (e.trans (bind_no hp)) (out_no hp (uNegA nm k x a n s w (Or.inr ⟨(by rw [hm]; decide), (by rw [hm]; decide), decide_eq_false c0⟩) hk hb.1 hb.2 _ rfl hp))
theorem rUn_sqrt (nm : ByteArray) (k : Int) (x : Bool) (a n : Int) (s : ByteArray) (w : World) (hm : nm.toList = Un.sqrt.name) (hN : isNumB k n = true) : Calls Tryd.prog 23 #[.string nm, vV k x a n s] w (Out w (N1 .sqrt k n)) := by
  show Calls _ _ _ _ (Out w (bindR (asR k n) fun m => gv (sqrtR m)))
  by_cases hp : (asR k n).2 = 0
  · by_cases hq : ((sqrtR (asR k n).1)).2 = 0
    · exact out_is ((bind_ok hp).trans (gv_ok hq)) (out_ok rfl (uSqrtOk nm k x a n s w ⟨(by rw [hm]; decide), (by rw [hm]; decide), (by rw [hm]; decide)⟩ _ rfl hp _ rfl hq))
    · exact out_is ((bind_ok hp).trans (gv_no hq)) (out_no hq (uSqrtNo nm k x a n s w ⟨(by rw [hm]; decide), (by rw [hm]; decide), (by rw [hm]; decide)⟩ _ rfl hp _ rfl hq))
  · exact out_is (bind_no hp) (out_no hp (uCurA nm k x a n s w (Or.inl ⟨(by rw [hm]; decide), (by rw [hm]; decide), (by rw [hm]; decide)⟩) _ rfl hp))
theorem rUn_sin (nm : ByteArray) (k : Int) (x : Bool) (a n : Int) (s : ByteArray) (w : World) (hm : nm.toList = Un.sin.name) (hN : isNumB k n = true) : Calls Tryd.prog 23 #[.string nm, vV k x a n s] w (Out w (N1 .sin k n)) := by
  show Calls _ _ _ _ (Out w (bindR (asR k n) fun m => gv ((rotM m).b, (rotM m).s)))
  by_cases hp : (asR k n).2 = 0
  · by_cases hq : (((rotM (asR k n).1).b, (rotM (asR k n).1).s)).2 = 0
    · exact out_is ((bind_ok hp).trans (gv_ok hq)) (out_ok rfl (uSinOk nm k x a n s w ⟨(by rw [hm]; decide), (by rw [hm]; decide), (by rw [hm]; decide), (by rw [hm]; decide)⟩ _ rfl hp _ rfl hq))
    · exact out_is ((bind_ok hp).trans (gv_no hq)) (out_no hq (uSinNo nm k x a n s w ⟨(by rw [hm]; decide), (by rw [hm]; decide), (by rw [hm]; decide), (by rw [hm]; decide)⟩ _ rfl hp _ rfl hq))
  · exact out_is (bind_no hp) (out_no hp (uCurA nm k x a n s w (Or.inr (Or.inl ⟨(by rw [hm]; decide), (by rw [hm]; decide), (by rw [hm]; decide), (by rw [hm]; decide)⟩)) _ rfl hp))
theorem rUn_cos (nm : ByteArray) (k : Int) (x : Bool) (a n : Int) (s : ByteArray) (w : World) (hm : nm.toList = Un.cos.name) (hN : isNumB k n = true) : Calls Tryd.prog 23 #[.string nm, vV k x a n s] w (Out w (N1 .cos k n)) := by
  show Calls _ _ _ _ (Out w (bindR (asR k n) fun m => gv ((rotM m).a, (rotM m).s)))
  by_cases hp : (asR k n).2 = 0
  · by_cases hq : (((rotM (asR k n).1).a, (rotM (asR k n).1).s)).2 = 0
    · exact out_is ((bind_ok hp).trans (gv_ok hq)) (out_ok rfl (uCosOk nm k x a n s w ⟨(by rw [hm]; decide), (by rw [hm]; decide), (by rw [hm]; decide), (by rw [hm]; decide), (by rw [hm]; decide)⟩ _ rfl hp _ rfl hq))
    · exact out_is ((bind_ok hp).trans (gv_no hq)) (out_no hq (uCosNo nm k x a n s w ⟨(by rw [hm]; decide), (by rw [hm]; decide), (by rw [hm]; decide), (by rw [hm]; decide), (by rw [hm]; decide)⟩ _ rfl hp _ rfl hq))
  · exact out_is (bind_no hp) (out_no hp (uCurA nm k x a n s w (Or.inr (Or.inr ⟨(by rw [hm]; decide), (by rw [hm]; decide), (by rw [hm]; decide), (by rw [hm]; decide), (by rw [hm]; decide)⟩)) _ rfl hp))
theorem rUn_ceiling (nm : ByteArray) (k : Int) (x : Bool) (a n : Int) (s : ByteArray) (w : World) (hm : nm.toList = Un.ceiling.name) (hN : isNumB k n = true) : Calls Tryd.prog 23 #[.string nm, vV k x a n s] w (Out w (N1 .ceiling k n)) := by
  show Calls _ _ _ _ (Out w (wh k n (ceilR n)))
  unfold wh
  by_cases c : k = 1
  · rw [if_pos c]; exact out_ok rfl (uWhI nm k x a n s w ⟨(by rw [hm]; decide), (by rw [hm]; decide), (by rw [hm]; decide), (by rw [hm]; decide), (by rw [hm]; decide)⟩ (beq_iff_eq.mpr c))
  · rw [if_neg c]
    by_cases hq : (ceilR n).2 = 0
    · exact out_is (gv_ok hq) (out_ok rfl (uCeilOk nm k x a n s w ⟨(by rw [hm]; decide), (by rw [hm]; decide), (by rw [hm]; decide), (by rw [hm]; decide), (by rw [hm]; decide), (by rw [hm]; decide)⟩ (beq_eq_false_iff_ne.mpr c) _ rfl hq))
    · exact out_is (gv_no hq) (out_no hq (uCeilNo nm k x a n s w ⟨(by rw [hm]; decide), (by rw [hm]; decide), (by rw [hm]; decide), (by rw [hm]; decide), (by rw [hm]; decide), (by rw [hm]; decide)⟩ (beq_eq_false_iff_ne.mpr c) _ rfl hq))
theorem rUn_round (nm : ByteArray) (k : Int) (x : Bool) (a n : Int) (s : ByteArray) (w : World) (hm : nm.toList = Un.round.name) (hN : isNumB k n = true) : Calls Tryd.prog 23 #[.string nm, vV k x a n s] w (Out w (N1 .round k n)) := by
  show Calls _ _ _ _ (Out w (wh k n (roundR n)))
  unfold wh
  by_cases c : k = 1
  · rw [if_pos c]; exact out_ok rfl (uWhI nm k x a n s w ⟨(by rw [hm]; decide), (by rw [hm]; decide), (by rw [hm]; decide), (by rw [hm]; decide), (by rw [hm]; decide)⟩ (beq_iff_eq.mpr c))
  · rw [if_neg c]
    by_cases hq : (roundR n).2 = 0
    · exact out_is (gv_ok hq) (out_ok rfl (uRoundOk nm k x a n s w ⟨(by rw [hm]; decide), (by rw [hm]; decide), (by rw [hm]; decide), (by rw [hm]; decide), (by rw [hm]; decide), (by rw [hm]; decide), (by rw [hm]; decide)⟩ (beq_eq_false_iff_ne.mpr c) _ rfl hq))
    · exact out_is (gv_no hq) (out_no hq (uRoundNo nm k x a n s w ⟨(by rw [hm]; decide), (by rw [hm]; decide), (by rw [hm]; decide), (by rw [hm]; decide), (by rw [hm]; decide), (by rw [hm]; decide), (by rw [hm]; decide)⟩ (beq_eq_false_iff_ne.mpr c) _ rfl hq))
theorem rUn_floor (nm : ByteArray) (k : Int) (x : Bool) (a n : Int) (s : ByteArray) (w : World) (hm : nm.toList = Un.floor.name) (hN : isNumB k n = true) : Calls Tryd.prog 23 #[.string nm, vV k x a n s] w (Out w (N1 .floor k n)) := by
  show Calls _ _ _ _ (Out w (wh k n (floorF n, 0)))
  unfold wh
  by_cases c : k = 1
  · rw [if_pos c]; exact out_ok rfl (uWhI nm k x a n s w ⟨(by rw [hm]; decide), (by rw [hm]; decide), (by rw [hm]; decide), (by rw [hm]; decide), (by rw [hm]; decide)⟩ (beq_iff_eq.mpr c))
  · rw [if_neg c]; exact out_ok rfl (uFloor nm k x a n s w ⟨(by rw [hm]; decide), (by rw [hm]; decide), (by rw [hm]; decide), (by rw [hm]; decide), (by rw [hm]; decide), (by rw [hm]; decide), (by rw [hm]; decide), (by rw [hm]; decide)⟩ (beq_eq_false_iff_ne.mpr c))
theorem rUn_truncate (nm : ByteArray) (k : Int) (x : Bool) (a n : Int) (s : ByteArray) (w : World) (hm : nm.toList = Un.truncate.name) (hN : isNumB k n = true) : Calls Tryd.prog 23 #[.string nm, vV k x a n s] w (Out w (N1 .truncate k n)) := by
  show Calls _ _ _ _ (Out w (wh k n (truncF n, 0)))
  unfold wh
  by_cases c : k = 1
  · rw [if_pos c]; exact out_ok rfl (uWhI nm k x a n s w ⟨(by rw [hm]; decide), (by rw [hm]; decide), (by rw [hm]; decide), (by rw [hm]; decide), (by rw [hm]; decide)⟩ (beq_iff_eq.mpr c))
  · rw [if_neg c]; exact out_ok rfl (uTrunc nm k x a n s w ⟨(by rw [hm]; decide), (by rw [hm]; decide), (by rw [hm]; decide), (by rw [hm]; decide), (by rw [hm]; decide), (by rw [hm]; decide), (by rw [hm]; decide), (by rw [hm]; decide)⟩ (beq_eq_false_iff_ne.mpr c))
end Go.Proofs.YtmbnlklinmmkdaaDoor.One
