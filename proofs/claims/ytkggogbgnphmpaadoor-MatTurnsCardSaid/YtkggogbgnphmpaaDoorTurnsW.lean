/- The walk of the law MatTurns. -/
import Derived.Test.YtkggogbgnphmpaaDoorTurnsC
import Derived.Test.YtkggogbgnphmpaaDoorEq
namespace Go.Proofs.YtkggogbgnphmpaaDoor.Turns
open Go.RowKit Go.Proofs.YtkggogbgnphmpaaDoorW.PrintWords Go.Proofs.YtkggogbgnphmpaaDoorW.PrintLast Go.Proofs.YtkggogbgnphmpaaDoorW.PrintMore Go.Proofs.YtkggogbgnphmpaaDoor.Base Go.Proofs.YtkggogbgnphmpaaDoor.MatA Go.Proofs.YtkggogbgnphmpaaDoor.Sem

theorem neqM_self (a0 a1 a2 a3 a4 a5 : Int) (w : World) : (binOp .neq 22 (mV a0 a1 a2 a3 a4 a5) (mV a0 a1 a2 a3 a4 a5)).run Tryd.prog w = .ok (.bool false) w := by
  simp only [binOp]
  simp [Op.equal, Op.maxDepth, eqMIn]

theorem size_pos {w w' : World} (hz : 0 < w.heap.size) (hb : Below w.heap.size w w') : 0 < w'.heap.size := Nat.lt_of_lt_of_le hz hb.size
theorem full {d : Int} (hf : fitB d = true) (hg : fitB (d + 23592960) = true) : rotM (d + 23592960) = rotM d := by
  unfold rotM; rw [if_pos hf, if_pos hg]
  have e1 : (deg (d + 23592960) + 90) % 360 = (deg d + 90) % 360 := by unfold deg; omega
  have e2 : deg (d + 23592960) % 360 = deg d % 360 := by unfold deg; omega
  rw [e1, e2]
theorem half {d : Int} (hf : fitB d = true) (hg : fitB (d + 11796480) = true) : rotM (d + 11796480) = ⟨-(rotM d).a, -(rotM d).b, -(rotM d).c, -(rotM d).d, 0, 0, 0⟩ := by
  unfold rotM; rw [if_pos hf, if_pos hg]
  have e1 : (deg (d + 11796480) + 90) % 360 = ((deg d + 90) % 360 + 180) % 360 := by unfold deg; omega
  have e2 : deg (d + 11796480) % 360 = (deg d % 360 + 180) % 360 := by unfold deg; omega
  rw [e1, e2, S_half (by omega) (by omega), S_half (by omega) (by omega)]
theorem rot_range (d : Int) : (-65536 ≤ (rotM d).a ∧ (rotM d).a ≤ 65536) ∧ (-65536 ≤ (rotM d).b ∧ (rotM d).b ≤ 65536) ∧ (-65536 ≤ (rotM d).c ∧ (rotM d).c ≤ 65536) ∧ (-65536 ≤ (rotM d).d ∧ (rotM d).d ≤ 65536) := by
  have h1 := S_range ((deg d + 90) % 360)
  have h2 := S_range (deg d % 360)
  unfold rotM; split
  · exact ⟨h1, h2, by dsimp only; omega, h1⟩
  · unfold zero6; dsimp only; omega

set_option maxHeartbeats 3200000 in
set_option maxRecDepth 100000 in
theorem walk (d : Int) (w : World) (T : Tab w) (hz : 0 < w.heap.size) : Calls Tryd.prog 3 #[.int .i64 d] w fun e w' => e = .returned (.bool true) ∧ Below w.heap.size w w' := by
  have HT := Aside0.mk T
  clear T
  obtain ⟨r, hr⟩ : ∃ r, rotM d = r := ⟨_, rfl⟩
  have HR := Aside0.mk hr
  have HB := Aside0.mk (Below.refl w.heap.size w)
  have q1 := fun w => neqM_self r.a r.b r.c r.d r.e r.f w
  have q2 := fun w => eqM_self r.a r.b r.c r.d r.e r.f w
  cases hf : fitB d
  · have hs : r.s = 11 := by rw [← hr]; unfold rotM; rw [if_neg (by rw [hf]; decide)]; rfl
    clear hr
    go_enter Tryd.func3, Tryd.ntmps3
    go_upto_region 2 with (go_at_call 4; ((with_reducible refine (cRotate d _ (Tab.below HT.out (by repeat (first | (with_reducible first | exact HB.out | apply below_alloc | apply pw_below_drewN | apply below_drew1))) hz) (size_pos hz (by repeat (first | (with_reducible first | exact HB.out | apply below_alloc | apply pw_below_drewN | apply below_drew1))))).mono ?_); rintro e w1 ⟨rfl, hb⟩; rw [HR.out]; have nHB := Aside0.mk (below_step (by repeat (first | (with_reducible first | exact HB.out | apply below_alloc | apply pw_below_drewN | apply below_drew1))) hb); clear hb ; clear  HB; have HB := nHB; clear nHB; skip))
    have nHB := Aside0.mk (below_alloc HB.out (.cells (mC r.a r.b r.c r.d r.e r.f) 22))
    have N0 := Aside0.mk (Has.new w1 (mC r.a r.b r.c r.d r.e r.f) 22 rfl)
    clear  HB
    have HB := nHB
    clear nHB
    have hM := N0
    clear N0
    generalize w1.alloc (.cells (mC r.a r.b r.c r.d r.e r.f) 22) = W1 at *
    have cm0 : W1.cell? ⟨w1.heap.size, 0, none⟩ = some (.int .i64 r.a) := hM.out.cell 0
    have cm1 : W1.cell? ⟨w1.heap.size, 1, none⟩ = some (.int .i64 r.b) := hM.out.cell 1
    have cm2 : W1.cell? ⟨w1.heap.size, 2, none⟩ = some (.int .i64 r.c) := hM.out.cell 2
    have cm3 : W1.cell? ⟨w1.heap.size, 3, none⟩ = some (.int .i64 r.d) := hM.out.cell 3
    have cm4 : W1.cell? ⟨w1.heap.size, 4, none⟩ = some (.int .i64 r.e) := hM.out.cell 4
    have cm5 : W1.cell? ⟨w1.heap.size, 5, none⟩ = some (.int .i64 r.f) := hM.out.cell 5
    have lhM := hM.out.lt
    go_upto_region 3 with (go_at_call 5; ((with_reducible refine (rRotate _ _).mono ?_); rintro e w2 ⟨rfl, hb⟩; rw [HR.out]; have nhM := Aside0.mk (show Has w2 (w1.heap.size) (mC r.a r.b r.c r.d r.e r.f) 22 from Has.below (by repeat (first | (with_reducible exact hM.out) | (with_reducible first | apply Has.alloc | apply Has.drewN | apply Has.drew) | (with_reducible refine Has.far ?_ (by dsimp only; omega) _))) hb); have nHB := Aside0.mk (below_step (by repeat (first | (with_reducible first | exact HB.out | apply below_alloc | apply pw_below_drewN | apply below_drew1))) hb); clear hb cm0 cm1 cm2 cm3 cm4 cm5 lhM; clear hM HB; have hM := nhM; clear nhM; have HB := nHB; clear nHB; have cm0 : w2.cell? ⟨w1.heap.size, 0, none⟩ = some (.int .i64 r.a) := hM.out.cell 0; have cm1 : w2.cell? ⟨w1.heap.size, 1, none⟩ = some (.int .i64 r.b) := hM.out.cell 1; have cm2 : w2.cell? ⟨w1.heap.size, 2, none⟩ = some (.int .i64 r.c) := hM.out.cell 2; have cm3 : w2.cell? ⟨w1.heap.size, 3, none⟩ = some (.int .i64 r.d) := hM.out.cell 3; have cm4 : w2.cell? ⟨w1.heap.size, 4, none⟩ = some (.int .i64 r.e) := hM.out.cell 4; have cm5 : w2.cell? ⟨w1.heap.size, 5, none⟩ = some (.int .i64 r.f) := hM.out.cell 5; have lhM := hM.out.lt; skip))
    have nhM := Aside0.mk (show Has (w2.alloc (.cells (mC r.a r.b r.c r.d r.e r.f) 22)) (w1.heap.size) (mC r.a r.b r.c r.d r.e r.f) 22 from Has.alloc hM.out _)
    have nHB := Aside0.mk (below_alloc HB.out (.cells (mC r.a r.b r.c r.d r.e r.f) 22))
    have N0 := Aside0.mk (Has.new w2 (mC r.a r.b r.c r.d r.e r.f) 22 rfl)
    clear cm0 cm1 cm2 cm3 cm4 cm5 lhM
    clear hM HB
    have hM := nhM
    clear nhM
    have HB := nHB
    clear nHB
    have hN := N0
    clear N0
    generalize w2.alloc (.cells (mC r.a r.b r.c r.d r.e r.f) 22) = W2 at *
    have cm0 : W2.cell? ⟨w1.heap.size, 0, none⟩ = some (.int .i64 r.a) := hM.out.cell 0
    have cm1 : W2.cell? ⟨w1.heap.size, 1, none⟩ = some (.int .i64 r.b) := hM.out.cell 1
    have cm2 : W2.cell? ⟨w1.heap.size, 2, none⟩ = some (.int .i64 r.c) := hM.out.cell 2
    have cm3 : W2.cell? ⟨w1.heap.size, 3, none⟩ = some (.int .i64 r.d) := hM.out.cell 3
    have cm4 : W2.cell? ⟨w1.heap.size, 4, none⟩ = some (.int .i64 r.e) := hM.out.cell 4
    have cm5 : W2.cell? ⟨w1.heap.size, 5, none⟩ = some (.int .i64 r.f) := hM.out.cell 5
    have lhM := hM.out.lt
    have cn0 : W2.cell? ⟨w2.heap.size, 0, none⟩ = some (.int .i64 r.a) := hN.out.cell 0
    have cn1 : W2.cell? ⟨w2.heap.size, 1, none⟩ = some (.int .i64 r.b) := hN.out.cell 1
    have cn2 : W2.cell? ⟨w2.heap.size, 2, none⟩ = some (.int .i64 r.c) := hN.out.cell 2
    have cn3 : W2.cell? ⟨w2.heap.size, 3, none⟩ = some (.int .i64 r.d) := hN.out.cell 3
    have cn4 : W2.cell? ⟨w2.heap.size, 4, none⟩ = some (.int .i64 r.e) := hN.out.cell 4
    have cn5 : W2.cell? ⟨w2.heap.size, 5, none⟩ = some (.int .i64 r.f) := hN.out.cell 5
    have lhN := hN.out.lt
    have e0 : (r.s != 0) = true := by rw [hs]; decide
    go_wp2_with (go_at_call 6; ((with_reducible refine (cAnswers _).mono ?_); rintro e w3 ⟨rfl, hb⟩; have nhM := Aside0.mk (show Has w3 (w1.heap.size) (mC r.a r.b r.c r.d r.e r.f) 22 from Has.below (by repeat (first | (with_reducible exact hM.out) | (with_reducible first | apply Has.alloc | apply Has.drewN | apply Has.drew) | (with_reducible refine Has.far ?_ (by dsimp only; omega) _))) hb); have nhN := Aside0.mk (show Has w3 (w2.heap.size) (mC r.a r.b r.c r.d r.e r.f) 22 from Has.below (by repeat (first | (with_reducible exact hN.out) | (with_reducible first | apply Has.alloc | apply Has.drewN | apply Has.drew) | (with_reducible refine Has.far ?_ (by dsimp only; omega) _))) hb); have nHB := Aside0.mk (below_step (by repeat (first | (with_reducible first | exact HB.out | apply below_alloc | apply pw_below_drewN | apply below_drew1))) hb); clear hb cm0 cm1 cm2 cm3 cm4 cm5 lhM cn0 cn1 cn2 cn3 cn4 cn5 lhN; clear hM hN HB; have hM := nhM; clear nhM; have hN := nhN; clear nhN; have HB := nHB; clear nHB; have cm0 : w3.cell? ⟨w1.heap.size, 0, none⟩ = some (.int .i64 r.a) := hM.out.cell 0; have cm1 : w3.cell? ⟨w1.heap.size, 1, none⟩ = some (.int .i64 r.b) := hM.out.cell 1; have cm2 : w3.cell? ⟨w1.heap.size, 2, none⟩ = some (.int .i64 r.c) := hM.out.cell 2; have cm3 : w3.cell? ⟨w1.heap.size, 3, none⟩ = some (.int .i64 r.d) := hM.out.cell 3; have cm4 : w3.cell? ⟨w1.heap.size, 4, none⟩ = some (.int .i64 r.e) := hM.out.cell 4; have cm5 : w3.cell? ⟨w1.heap.size, 5, none⟩ = some (.int .i64 r.f) := hM.out.cell 5; have lhM := hM.out.lt; have cn0 : w3.cell? ⟨w2.heap.size, 0, none⟩ = some (.int .i64 r.a) := hN.out.cell 0; have cn1 : w3.cell? ⟨w2.heap.size, 1, none⟩ = some (.int .i64 r.b) := hN.out.cell 1; have cn2 : w3.cell? ⟨w2.heap.size, 2, none⟩ = some (.int .i64 r.c) := hN.out.cell 2; have cn3 : w3.cell? ⟨w2.heap.size, 3, none⟩ = some (.int .i64 r.d) := hN.out.cell 3; have cn4 : w3.cell? ⟨w2.heap.size, 4, none⟩ = some (.int .i64 r.e) := hN.out.cell 4; have cn5 : w3.cell? ⟨w2.heap.size, 5, none⟩ = some (.int .i64 r.f) := hN.out.cell 5; have lhN := hN.out.lt; skip))
    go_ret
    exact ⟨rfl, HB.out⟩
  · have hs : r.s = 0 := by rw [← hr]; unfold rotM; rw [if_pos hf]
    have hb := fitB_true.1 hf
    go_enter Tryd.func3, Tryd.ntmps3
    go_upto_region 2 with (go_at_call 4; ((with_reducible refine (cRotate d _ (Tab.below HT.out (by repeat (first | (with_reducible first | exact HB.out | apply below_alloc | apply pw_below_drewN | apply below_drew1))) hz) (size_pos hz (by repeat (first | (with_reducible first | exact HB.out | apply below_alloc | apply pw_below_drewN | apply below_drew1))))).mono ?_); rintro e w1 ⟨rfl, hb⟩; rw [HR.out]; have nHB := Aside0.mk (below_step (by repeat (first | (with_reducible first | exact HB.out | apply below_alloc | apply pw_below_drewN | apply below_drew1))) hb); clear hb ; clear  HB; have HB := nHB; clear nHB; skip))
    have nHB := Aside0.mk (below_alloc HB.out (.cells (mC r.a r.b r.c r.d r.e r.f) 22))
    have N0 := Aside0.mk (Has.new w1 (mC r.a r.b r.c r.d r.e r.f) 22 rfl)
    clear  HB
    have HB := nHB
    clear nHB
    have hM := N0
    clear N0
    generalize w1.alloc (.cells (mC r.a r.b r.c r.d r.e r.f) 22) = W1 at *
    have cm0 : W1.cell? ⟨w1.heap.size, 0, none⟩ = some (.int .i64 r.a) := hM.out.cell 0
    have cm1 : W1.cell? ⟨w1.heap.size, 1, none⟩ = some (.int .i64 r.b) := hM.out.cell 1
    have cm2 : W1.cell? ⟨w1.heap.size, 2, none⟩ = some (.int .i64 r.c) := hM.out.cell 2
    have cm3 : W1.cell? ⟨w1.heap.size, 3, none⟩ = some (.int .i64 r.d) := hM.out.cell 3
    have cm4 : W1.cell? ⟨w1.heap.size, 4, none⟩ = some (.int .i64 r.e) := hM.out.cell 4
    have cm5 : W1.cell? ⟨w1.heap.size, 5, none⟩ = some (.int .i64 r.f) := hM.out.cell 5
    have lhM := hM.out.lt
    go_upto_region 3 with (go_at_call 5; ((with_reducible refine (rRotate _ _).mono ?_); rintro e w2 ⟨rfl, hb⟩; rw [HR.out]; have nhM := Aside0.mk (show Has w2 (w1.heap.size) (mC r.a r.b r.c r.d r.e r.f) 22 from Has.below (by repeat (first | (with_reducible exact hM.out) | (with_reducible first | apply Has.alloc | apply Has.drewN | apply Has.drew) | (with_reducible refine Has.far ?_ (by dsimp only; omega) _))) hb); have nHB := Aside0.mk (below_step (by repeat (first | (with_reducible first | exact HB.out | apply below_alloc | apply pw_below_drewN | apply below_drew1))) hb); clear hb cm0 cm1 cm2 cm3 cm4 cm5 lhM; clear hM HB; have hM := nhM; clear nhM; have HB := nHB; clear nHB; have cm0 : w2.cell? ⟨w1.heap.size, 0, none⟩ = some (.int .i64 r.a) := hM.out.cell 0; have cm1 : w2.cell? ⟨w1.heap.size, 1, none⟩ = some (.int .i64 r.b) := hM.out.cell 1; have cm2 : w2.cell? ⟨w1.heap.size, 2, none⟩ = some (.int .i64 r.c) := hM.out.cell 2; have cm3 : w2.cell? ⟨w1.heap.size, 3, none⟩ = some (.int .i64 r.d) := hM.out.cell 3; have cm4 : w2.cell? ⟨w1.heap.size, 4, none⟩ = some (.int .i64 r.e) := hM.out.cell 4; have cm5 : w2.cell? ⟨w1.heap.size, 5, none⟩ = some (.int .i64 r.f) := hM.out.cell 5; have lhM := hM.out.lt; skip))
    have nhM := Aside0.mk (show Has (w2.alloc (.cells (mC r.a r.b r.c r.d r.e r.f) 22)) (w1.heap.size) (mC r.a r.b r.c r.d r.e r.f) 22 from Has.alloc hM.out _)
    have nHB := Aside0.mk (below_alloc HB.out (.cells (mC r.a r.b r.c r.d r.e r.f) 22))
    have N0 := Aside0.mk (Has.new w2 (mC r.a r.b r.c r.d r.e r.f) 22 rfl)
    clear cm0 cm1 cm2 cm3 cm4 cm5 lhM
    clear hM HB
    have hM := nhM
    clear nhM
    have HB := nHB
    clear nHB
    have hN := N0
    clear N0
    generalize w2.alloc (.cells (mC r.a r.b r.c r.d r.e r.f) 22) = W2 at *
    have cm0 : W2.cell? ⟨w1.heap.size, 0, none⟩ = some (.int .i64 r.a) := hM.out.cell 0
    have cm1 : W2.cell? ⟨w1.heap.size, 1, none⟩ = some (.int .i64 r.b) := hM.out.cell 1
    have cm2 : W2.cell? ⟨w1.heap.size, 2, none⟩ = some (.int .i64 r.c) := hM.out.cell 2
    have cm3 : W2.cell? ⟨w1.heap.size, 3, none⟩ = some (.int .i64 r.d) := hM.out.cell 3
    have cm4 : W2.cell? ⟨w1.heap.size, 4, none⟩ = some (.int .i64 r.e) := hM.out.cell 4
    have cm5 : W2.cell? ⟨w1.heap.size, 5, none⟩ = some (.int .i64 r.f) := hM.out.cell 5
    have lhM := hM.out.lt
    have cn0 : W2.cell? ⟨w2.heap.size, 0, none⟩ = some (.int .i64 r.a) := hN.out.cell 0
    have cn1 : W2.cell? ⟨w2.heap.size, 1, none⟩ = some (.int .i64 r.b) := hN.out.cell 1
    have cn2 : W2.cell? ⟨w2.heap.size, 2, none⟩ = some (.int .i64 r.c) := hN.out.cell 2
    have cn3 : W2.cell? ⟨w2.heap.size, 3, none⟩ = some (.int .i64 r.d) := hN.out.cell 3
    have cn4 : W2.cell? ⟨w2.heap.size, 4, none⟩ = some (.int .i64 r.e) := hN.out.cell 4
    have cn5 : W2.cell? ⟨w2.heap.size, 5, none⟩ = some (.int .i64 r.f) := hN.out.cell 5
    have lhN := hN.out.lt
    have e0 : (r.s != 0) = false := by rw [hs]; decide
    have hw1 : IntKind.i64.wrap (d + 23592960) = d + 23592960 := IntWalk.i64_in _ (by omega)
    go_upto_region 5 with (go_at_call 6; ((with_reducible refine (cAnswers _).mono ?_); rintro e w3 ⟨rfl, hb⟩; have nhM := Aside0.mk (show Has w3 (w1.heap.size) (mC r.a r.b r.c r.d r.e r.f) 22 from Has.below (by repeat (first | (with_reducible exact hM.out) | (with_reducible first | apply Has.alloc | apply Has.drewN | apply Has.drew) | (with_reducible refine Has.far ?_ (by dsimp only; omega) _))) hb); have nhN := Aside0.mk (show Has w3 (w2.heap.size) (mC r.a r.b r.c r.d r.e r.f) 22 from Has.below (by repeat (first | (with_reducible exact hN.out) | (with_reducible first | apply Has.alloc | apply Has.drewN | apply Has.drew) | (with_reducible refine Has.far ?_ (by dsimp only; omega) _))) hb); have nHB := Aside0.mk (below_step (by repeat (first | (with_reducible first | exact HB.out | apply below_alloc | apply pw_below_drewN | apply below_drew1))) hb); clear hb cm0 cm1 cm2 cm3 cm4 cm5 lhM cn0 cn1 cn2 cn3 cn4 cn5 lhN; clear hM hN HB; have hM := nhM; clear nhM; have hN := nhN; clear nhN; have HB := nHB; clear nHB; have cm0 : w3.cell? ⟨w1.heap.size, 0, none⟩ = some (.int .i64 r.a) := hM.out.cell 0; have cm1 : w3.cell? ⟨w1.heap.size, 1, none⟩ = some (.int .i64 r.b) := hM.out.cell 1; have cm2 : w3.cell? ⟨w1.heap.size, 2, none⟩ = some (.int .i64 r.c) := hM.out.cell 2; have cm3 : w3.cell? ⟨w1.heap.size, 3, none⟩ = some (.int .i64 r.d) := hM.out.cell 3; have cm4 : w3.cell? ⟨w1.heap.size, 4, none⟩ = some (.int .i64 r.e) := hM.out.cell 4; have cm5 : w3.cell? ⟨w1.heap.size, 5, none⟩ = some (.int .i64 r.f) := hM.out.cell 5; have lhM := hM.out.lt; have cn0 : w3.cell? ⟨w2.heap.size, 0, none⟩ = some (.int .i64 r.a) := hN.out.cell 0; have cn1 : w3.cell? ⟨w2.heap.size, 1, none⟩ = some (.int .i64 r.b) := hN.out.cell 1; have cn2 : w3.cell? ⟨w2.heap.size, 2, none⟩ = some (.int .i64 r.c) := hN.out.cell 2; have cn3 : w3.cell? ⟨w2.heap.size, 3, none⟩ = some (.int .i64 r.d) := hN.out.cell 3; have cn4 : w3.cell? ⟨w2.heap.size, 4, none⟩ = some (.int .i64 r.e) := hN.out.cell 4; have cn5 : w3.cell? ⟨w2.heap.size, 5, none⟩ = some (.int .i64 r.f) := hN.out.cell 5; have lhN := hN.out.lt; skip))
    cases hg : fitB (d + 23592960)
    · go_wp2_with (go_at_call 7; ((with_reducible refine (rFits _ _).mono ?_); rintro e w' ⟨rfl, ⟨nd, rfl⟩⟩; rw [hg]))
      go_ret
      exact ⟨rfl, by repeat (first | (with_reducible first | exact HB.out | apply below_alloc | apply pw_below_drewN | apply below_drew1))⟩
    · have hgb := fitB_true.1 hg
      have HR2 := Aside0.mk (show rotM (d + 23592960) = r by rw [← hr]; exact full hf hg)
      have HR3 := Aside0.mk (show rotM (d + 11796480) = ⟨-r.a, -r.b, -r.c, -r.d, 0, 0, 0⟩ by rw [← hr]; exact half hf (fitB_true.2 (by omega)))
      have hb4 := rot_range d
      rw [hr] at hb4
      clear hr
      have na : IntKind.i64.wrap (-r.a) = -r.a := IntWalk.i64_in _ (by omega)
      have nb : IntKind.i64.wrap (-r.b) = -r.b := IntWalk.i64_in _ (by omega)
      have nc : IntKind.i64.wrap (-r.c) = -r.c := IntWalk.i64_in _ (by omega)
      have nd : IntKind.i64.wrap (-r.d) = -r.d := IntWalk.i64_in _ (by omega)
      have hw2 : IntKind.i64.wrap (d + 11796480) = d + 11796480 := IntWalk.i64_in _ (by omega)
      have q3 := fun w => eqM_self (-r.a) (-r.b) (-r.c) (-r.d) 0 0 w
      go_upto_region 8 with (first | (go_at_call 7; ((with_reducible refine (rFits _ _).mono ?_); rintro e w' ⟨rfl, ⟨nd, rfl⟩⟩; rw [hg])) | (go_at_call 4; ((with_reducible refine (cRotate (d + 23592960) _ (Tab.below HT.out (by repeat (first | (with_reducible first | exact HB.out | apply below_alloc | apply pw_below_drewN | apply below_drew1))) hz) (size_pos hz (by repeat (first | (with_reducible first | exact HB.out | apply below_alloc | apply pw_below_drewN | apply below_drew1))))).mono ?_); rintro e w4 ⟨rfl, hb⟩; rw [HR2.out]; have nhM := Aside0.mk (show Has w4 (w1.heap.size) (mC r.a r.b r.c r.d r.e r.f) 22 from Has.below (by repeat (first | (with_reducible exact hM.out) | (with_reducible first | apply Has.alloc | apply Has.drewN | apply Has.drew) | (with_reducible refine Has.far ?_ (by dsimp only; omega) _))) hb); have nhN := Aside0.mk (show Has w4 (w2.heap.size) (mC r.a r.b r.c r.d r.e r.f) 22 from Has.below (by repeat (first | (with_reducible exact hN.out) | (with_reducible first | apply Has.alloc | apply Has.drewN | apply Has.drew) | (with_reducible refine Has.far ?_ (by dsimp only; omega) _))) hb); have nHB := Aside0.mk (below_step (by repeat (first | (with_reducible first | exact HB.out | apply below_alloc | apply pw_below_drewN | apply below_drew1))) hb); clear hb cm0 cm1 cm2 cm3 cm4 cm5 lhM cn0 cn1 cn2 cn3 cn4 cn5 lhN; clear hM hN HB; have hM := nhM; clear nhM; have hN := nhN; clear nhN; have HB := nHB; clear nHB; have cm0 : w4.cell? ⟨w1.heap.size, 0, none⟩ = some (.int .i64 r.a) := hM.out.cell 0; have cm1 : w4.cell? ⟨w1.heap.size, 1, none⟩ = some (.int .i64 r.b) := hM.out.cell 1; have cm2 : w4.cell? ⟨w1.heap.size, 2, none⟩ = some (.int .i64 r.c) := hM.out.cell 2; have cm3 : w4.cell? ⟨w1.heap.size, 3, none⟩ = some (.int .i64 r.d) := hM.out.cell 3; have cm4 : w4.cell? ⟨w1.heap.size, 4, none⟩ = some (.int .i64 r.e) := hM.out.cell 4; have cm5 : w4.cell? ⟨w1.heap.size, 5, none⟩ = some (.int .i64 r.f) := hM.out.cell 5; have lhM := hM.out.lt; have cn0 : w4.cell? ⟨w2.heap.size, 0, none⟩ = some (.int .i64 r.a) := hN.out.cell 0; have cn1 : w4.cell? ⟨w2.heap.size, 1, none⟩ = some (.int .i64 r.b) := hN.out.cell 1; have cn2 : w4.cell? ⟨w2.heap.size, 2, none⟩ = some (.int .i64 r.c) := hN.out.cell 2; have cn3 : w4.cell? ⟨w2.heap.size, 3, none⟩ = some (.int .i64 r.d) := hN.out.cell 3; have cn4 : w4.cell? ⟨w2.heap.size, 4, none⟩ = some (.int .i64 r.e) := hN.out.cell 4; have cn5 : w4.cell? ⟨w2.heap.size, 5, none⟩ = some (.int .i64 r.f) := hN.out.cell 5; have lhN := hN.out.lt; skip)))
      have nhM := Aside0.mk (show Has (w4.alloc (.cells (mC r.a r.b r.c r.d r.e r.f) 22)) (w1.heap.size) (mC r.a r.b r.c r.d r.e r.f) 22 from Has.alloc hM.out _)
      have nhN := Aside0.mk (show Has (w4.alloc (.cells (mC r.a r.b r.c r.d r.e r.f) 22)) (w2.heap.size) (mC r.a r.b r.c r.d r.e r.f) 22 from Has.alloc hN.out _)
      have nHB := Aside0.mk (below_alloc HB.out (.cells (mC r.a r.b r.c r.d r.e r.f) 22))
      have N0 := Aside0.mk (Has.new w4 (mC r.a r.b r.c r.d r.e r.f) 22 rfl)
      clear cm0 cm1 cm2 cm3 cm4 cm5 lhM cn0 cn1 cn2 cn3 cn4 cn5 lhN
      clear hM hN HB
      have hM := nhM
      clear nhM
      have hN := nhN
      clear nhN
      have HB := nHB
      clear nHB
      have hA := N0
      clear N0
      generalize w4.alloc (.cells (mC r.a r.b r.c r.d r.e r.f) 22) = W4 at *
      have cm0 : W4.cell? ⟨w1.heap.size, 0, none⟩ = some (.int .i64 r.a) := hM.out.cell 0
      have cm1 : W4.cell? ⟨w1.heap.size, 1, none⟩ = some (.int .i64 r.b) := hM.out.cell 1
      have cm2 : W4.cell? ⟨w1.heap.size, 2, none⟩ = some (.int .i64 r.c) := hM.out.cell 2
      have cm3 : W4.cell? ⟨w1.heap.size, 3, none⟩ = some (.int .i64 r.d) := hM.out.cell 3
      have cm4 : W4.cell? ⟨w1.heap.size, 4, none⟩ = some (.int .i64 r.e) := hM.out.cell 4
      have cm5 : W4.cell? ⟨w1.heap.size, 5, none⟩ = some (.int .i64 r.f) := hM.out.cell 5
      have lhM := hM.out.lt
      have cn0 : W4.cell? ⟨w2.heap.size, 0, none⟩ = some (.int .i64 r.a) := hN.out.cell 0
      have cn1 : W4.cell? ⟨w2.heap.size, 1, none⟩ = some (.int .i64 r.b) := hN.out.cell 1
      have cn2 : W4.cell? ⟨w2.heap.size, 2, none⟩ = some (.int .i64 r.c) := hN.out.cell 2
      have cn3 : W4.cell? ⟨w2.heap.size, 3, none⟩ = some (.int .i64 r.d) := hN.out.cell 3
      have cn4 : W4.cell? ⟨w2.heap.size, 4, none⟩ = some (.int .i64 r.e) := hN.out.cell 4
      have cn5 : W4.cell? ⟨w2.heap.size, 5, none⟩ = some (.int .i64 r.f) := hN.out.cell 5
      have lhN := hN.out.lt
      have ca0 : W4.cell? ⟨w4.heap.size, 0, none⟩ = some (.int .i64 r.a) := hA.out.cell 0
      have ca1 : W4.cell? ⟨w4.heap.size, 1, none⟩ = some (.int .i64 r.b) := hA.out.cell 1
      have ca2 : W4.cell? ⟨w4.heap.size, 2, none⟩ = some (.int .i64 r.c) := hA.out.cell 2
      have ca3 : W4.cell? ⟨w4.heap.size, 3, none⟩ = some (.int .i64 r.d) := hA.out.cell 3
      have ca4 : W4.cell? ⟨w4.heap.size, 4, none⟩ = some (.int .i64 r.e) := hA.out.cell 4
      have ca5 : W4.cell? ⟨w4.heap.size, 5, none⟩ = some (.int .i64 r.f) := hA.out.cell 5
      have lhA := hA.out.lt
      go_upto_region 9 with (go_at_call 4; ((with_reducible refine (cRotate (d + 11796480) _ (Tab.below HT.out (by repeat (first | (with_reducible first | exact HB.out | apply below_alloc | apply pw_below_drewN | apply below_drew1))) hz) (size_pos hz (by repeat (first | (with_reducible first | exact HB.out | apply below_alloc | apply pw_below_drewN | apply below_drew1))))).mono ?_); rintro e w5 ⟨rfl, hb⟩; rw [HR3.out]; have nhM := Aside0.mk (show Has w5 (w1.heap.size) (mC r.a r.b r.c r.d r.e r.f) 22 from Has.below (by repeat (first | (with_reducible exact hM.out) | (with_reducible first | apply Has.alloc | apply Has.drewN | apply Has.drew) | (with_reducible refine Has.far ?_ (by dsimp only; omega) _))) hb); have nhN := Aside0.mk (show Has w5 (w2.heap.size) (mC r.a r.b r.c r.d r.e r.f) 22 from Has.below (by repeat (first | (with_reducible exact hN.out) | (with_reducible first | apply Has.alloc | apply Has.drewN | apply Has.drew) | (with_reducible refine Has.far ?_ (by dsimp only; omega) _))) hb); have nhA := Aside0.mk (show Has w5 (w4.heap.size) (mC r.a r.b r.c r.d r.e r.f) 22 from Has.below (by repeat (first | (with_reducible exact hA.out) | (with_reducible first | apply Has.alloc | apply Has.drewN | apply Has.drew) | (with_reducible refine Has.far ?_ (by dsimp only; omega) _))) hb); have nHB := Aside0.mk (below_step (by repeat (first | (with_reducible first | exact HB.out | apply below_alloc | apply pw_below_drewN | apply below_drew1))) hb); clear hb cm0 cm1 cm2 cm3 cm4 cm5 lhM cn0 cn1 cn2 cn3 cn4 cn5 lhN ca0 ca1 ca2 ca3 ca4 ca5 lhA; clear hM hN hA HB; have hM := nhM; clear nhM; have hN := nhN; clear nhN; have hA := nhA; clear nhA; have HB := nHB; clear nHB; have cm0 : w5.cell? ⟨w1.heap.size, 0, none⟩ = some (.int .i64 r.a) := hM.out.cell 0; have cm1 : w5.cell? ⟨w1.heap.size, 1, none⟩ = some (.int .i64 r.b) := hM.out.cell 1; have cm2 : w5.cell? ⟨w1.heap.size, 2, none⟩ = some (.int .i64 r.c) := hM.out.cell 2; have cm3 : w5.cell? ⟨w1.heap.size, 3, none⟩ = some (.int .i64 r.d) := hM.out.cell 3; have cm4 : w5.cell? ⟨w1.heap.size, 4, none⟩ = some (.int .i64 r.e) := hM.out.cell 4; have cm5 : w5.cell? ⟨w1.heap.size, 5, none⟩ = some (.int .i64 r.f) := hM.out.cell 5; have lhM := hM.out.lt; have cn0 : w5.cell? ⟨w2.heap.size, 0, none⟩ = some (.int .i64 r.a) := hN.out.cell 0; have cn1 : w5.cell? ⟨w2.heap.size, 1, none⟩ = some (.int .i64 r.b) := hN.out.cell 1; have cn2 : w5.cell? ⟨w2.heap.size, 2, none⟩ = some (.int .i64 r.c) := hN.out.cell 2; have cn3 : w5.cell? ⟨w2.heap.size, 3, none⟩ = some (.int .i64 r.d) := hN.out.cell 3; have cn4 : w5.cell? ⟨w2.heap.size, 4, none⟩ = some (.int .i64 r.e) := hN.out.cell 4; have cn5 : w5.cell? ⟨w2.heap.size, 5, none⟩ = some (.int .i64 r.f) := hN.out.cell 5; have lhN := hN.out.lt; have ca0 : w5.cell? ⟨w4.heap.size, 0, none⟩ = some (.int .i64 r.a) := hA.out.cell 0; have ca1 : w5.cell? ⟨w4.heap.size, 1, none⟩ = some (.int .i64 r.b) := hA.out.cell 1; have ca2 : w5.cell? ⟨w4.heap.size, 2, none⟩ = some (.int .i64 r.c) := hA.out.cell 2; have ca3 : w5.cell? ⟨w4.heap.size, 3, none⟩ = some (.int .i64 r.d) := hA.out.cell 3; have ca4 : w5.cell? ⟨w4.heap.size, 4, none⟩ = some (.int .i64 r.e) := hA.out.cell 4; have ca5 : w5.cell? ⟨w4.heap.size, 5, none⟩ = some (.int .i64 r.f) := hA.out.cell 5; have lhA := hA.out.lt; skip))
      have nhM := Aside0.mk (show Has (w5.alloc (.cells (mC (-r.a) (-r.b) (-r.c) (-r.d) 0 0) 22)) (w1.heap.size) (mC r.a r.b r.c r.d r.e r.f) 22 from Has.alloc hM.out _)
      have nhN := Aside0.mk (show Has (w5.alloc (.cells (mC (-r.a) (-r.b) (-r.c) (-r.d) 0 0) 22)) (w2.heap.size) (mC r.a r.b r.c r.d r.e r.f) 22 from Has.alloc hN.out _)
      have nhA := Aside0.mk (show Has (w5.alloc (.cells (mC (-r.a) (-r.b) (-r.c) (-r.d) 0 0) 22)) (w4.heap.size) (mC r.a r.b r.c r.d r.e r.f) 22 from Has.alloc hA.out _)
      have nHB := Aside0.mk (below_alloc HB.out (.cells (mC (-r.a) (-r.b) (-r.c) (-r.d) 0 0) 22))
      have N0 := Aside0.mk (Has.new w5 (mC (-r.a) (-r.b) (-r.c) (-r.d) 0 0) 22 rfl)
      clear cm0 cm1 cm2 cm3 cm4 cm5 lhM cn0 cn1 cn2 cn3 cn4 cn5 lhN ca0 ca1 ca2 ca3 ca4 ca5 lhA
      clear hM hN hA HB
      have hM := nhM
      clear nhM
      have hN := nhN
      clear nhN
      have hA := nhA
      clear nhA
      have HB := nHB
      clear nHB
      have hD := N0
      clear N0
      generalize w5.alloc (.cells (mC (-r.a) (-r.b) (-r.c) (-r.d) 0 0) 22) = W5 at *
      have cm0 : W5.cell? ⟨w1.heap.size, 0, none⟩ = some (.int .i64 r.a) := hM.out.cell 0
      have cm1 : W5.cell? ⟨w1.heap.size, 1, none⟩ = some (.int .i64 r.b) := hM.out.cell 1
      have cm2 : W5.cell? ⟨w1.heap.size, 2, none⟩ = some (.int .i64 r.c) := hM.out.cell 2
      have cm3 : W5.cell? ⟨w1.heap.size, 3, none⟩ = some (.int .i64 r.d) := hM.out.cell 3
      have cm4 : W5.cell? ⟨w1.heap.size, 4, none⟩ = some (.int .i64 r.e) := hM.out.cell 4
      have cm5 : W5.cell? ⟨w1.heap.size, 5, none⟩ = some (.int .i64 r.f) := hM.out.cell 5
      have lhM := hM.out.lt
      have cn0 : W5.cell? ⟨w2.heap.size, 0, none⟩ = some (.int .i64 r.a) := hN.out.cell 0
      have cn1 : W5.cell? ⟨w2.heap.size, 1, none⟩ = some (.int .i64 r.b) := hN.out.cell 1
      have cn2 : W5.cell? ⟨w2.heap.size, 2, none⟩ = some (.int .i64 r.c) := hN.out.cell 2
      have cn3 : W5.cell? ⟨w2.heap.size, 3, none⟩ = some (.int .i64 r.d) := hN.out.cell 3
      have cn4 : W5.cell? ⟨w2.heap.size, 4, none⟩ = some (.int .i64 r.e) := hN.out.cell 4
      have cn5 : W5.cell? ⟨w2.heap.size, 5, none⟩ = some (.int .i64 r.f) := hN.out.cell 5
      have lhN := hN.out.lt
      have ca0 : W5.cell? ⟨w4.heap.size, 0, none⟩ = some (.int .i64 r.a) := hA.out.cell 0
      have ca1 : W5.cell? ⟨w4.heap.size, 1, none⟩ = some (.int .i64 r.b) := hA.out.cell 1
      have ca2 : W5.cell? ⟨w4.heap.size, 2, none⟩ = some (.int .i64 r.c) := hA.out.cell 2
      have ca3 : W5.cell? ⟨w4.heap.size, 3, none⟩ = some (.int .i64 r.d) := hA.out.cell 3
      have ca4 : W5.cell? ⟨w4.heap.size, 4, none⟩ = some (.int .i64 r.e) := hA.out.cell 4
      have ca5 : W5.cell? ⟨w4.heap.size, 5, none⟩ = some (.int .i64 r.f) := hA.out.cell 5
      have lhA := hA.out.lt
      have cd0 : W5.cell? ⟨w5.heap.size, 0, none⟩ = some (.int .i64 (-r.a)) := hD.out.cell 0
      have cd1 : W5.cell? ⟨w5.heap.size, 1, none⟩ = some (.int .i64 (-r.b)) := hD.out.cell 1
      have cd2 : W5.cell? ⟨w5.heap.size, 2, none⟩ = some (.int .i64 (-r.c)) := hD.out.cell 2
      have cd3 : W5.cell? ⟨w5.heap.size, 3, none⟩ = some (.int .i64 (-r.d)) := hD.out.cell 3
      have cd4 : W5.cell? ⟨w5.heap.size, 4, none⟩ = some (.int .i64 0) := hD.out.cell 4
      have cd5 : W5.cell? ⟨w5.heap.size, 5, none⟩ = some (.int .i64 0) := hD.out.cell 5
      have lhD := hD.out.lt
      have e5 : (r.s == 0) = true := by rw [hs]; decide
      go_wp2
      go_ret
      exact ⟨rfl, by repeat (first | (with_reducible first | exact HB.out | apply below_alloc | apply pw_below_drewN | apply below_drew1))⟩
end Go.Proofs.YtkggogbgnphmpaaDoor.Turns
