/- The walk of the law MatLeads. -/
import Derived.Test.YtkggogbgnphmpaaEq
import Derived.Test.YtkggogbgnphmpaaMatB
import Derived.Test.YtkggogbgnphmpaaRefB
namespace Go.Proofs.Ytkggogbgnphmpaa.Leads
open Go.RowKit Go.Proofs.YtkggogbgnphmpaaW.PrintWords Go.Proofs.YtkggogbgnphmpaaW.PrintLast Go.Proofs.YtkggogbgnphmpaaW.PrintMore
open Go.Proofs.Ytkggogbgnphmpaa.Sem Go.Proofs.Ytkggogbgnphmpaa.Base Go.Proofs.Ytkggogbgnphmpaa.MatA Go.Proofs.Ytkggogbgnphmpaa.MatB Go.Proofs.Ytkggogbgnphmpaa.RefB

set_option maxHeartbeats 1600000 in
set_option maxRecDepth 100000 in
theorem walk (m0 m1 m2 m3 m4 m5 x y : Int) (w : World) : Calls Try.prog 3 #[mV m0 m1 m2 m3 m4 m5, pV x y] w fun e w' => e = .returned (.bool true) ∧ Below w.heap.size w w' := by
  go_enter Try.func3, Try.ntmps3
  go_wp2_with fail
  refine (cApply _ _ _ _ _ _ _ _ _).mono ?_
  rintro e w1 ⟨rfl, hB1⟩
  obtain ⟨u, hu⟩ : ∃ u, applyA m0 m1 m2 m3 m4 m5 x y = u := ⟨_, rfl⟩
  rw [hu]
  have Hu := Aside0.mk hu
  clear hu
  have hG1 : Below w.heap.size w w1 := below_step (by repeat (first | exact Below.refl _ _ | apply below_alloc | apply pw_below_drewN | apply below_drew1)) hB1
  have hH1 := hG1.size
  have hM1 : Has w1 (w.heap.size) (mC m0 m1 m2 m3 m4 m5) 22 := Has.below (by repeat (first | exact Has.new _ _ _ (by simp) | apply Has.alloc)) hB1
  have hP1 : Has w1 (w.heap.size + 1) (pC x y) 24 := Has.below (by repeat (first | exact Has.new _ _ _ (by simp) | apply Has.alloc)) hB1
  clear hB1 
  have chM0 : w1.cell? ⟨w.heap.size, 0, none⟩ = some (.int .i64 m0) := hM1.cell 0
  have chM1 : w1.cell? ⟨w.heap.size, 1, none⟩ = some (.int .i64 m1) := hM1.cell 1
  have chM2 : w1.cell? ⟨w.heap.size, 2, none⟩ = some (.int .i64 m2) := hM1.cell 2
  have chM3 : w1.cell? ⟨w.heap.size, 3, none⟩ = some (.int .i64 m3) := hM1.cell 3
  have chM4 : w1.cell? ⟨w.heap.size, 4, none⟩ = some (.int .i64 m4) := hM1.cell 4
  have chM5 : w1.cell? ⟨w.heap.size, 5, none⟩ = some (.int .i64 m5) := hM1.cell 5
  have lhM := hM1.lt
  have chP0 : w1.cell? ⟨w.heap.size + 1, 0, none⟩ = some (.int .i64 x) := hP1.cell 0
  have chP1 : w1.cell? ⟨w.heap.size + 1, 1, none⟩ = some (.int .i64 y) := hP1.cell 1
  have lhP := hP1.lt
  go_wp2_with fail
  refine (rApply _ _ _ _ _ _ _ _ _).mono ?_
  rintro e w2 ⟨rfl, hB2⟩
  obtain ⟨u2, hu2⟩ : ∃ u, applyB m0 m1 m2 m3 m4 m5 x y = u := ⟨_, rfl⟩
  rw [hu2]
  have Hu2 := Aside0.mk hu2
  clear hu2
  have hG2 : Below w.heap.size w w2 := below_step (by repeat (first | (with_reducible exact hG1) | apply below_alloc)) hB2
  have hH2 := hG2.size
  have hM2 : Has w2 (w.heap.size) (mC m0 m1 m2 m3 m4 m5) 22 := Has.below (by repeat (first | (with_reducible exact hM1) | apply Has.alloc)) hB2
  have hP2 : Has w2 (w.heap.size + 1) (pC x y) 24 := Has.below (by repeat (first | (with_reducible exact hP1) | apply Has.alloc)) hB2
  have hUu2 : Has w2 (w1.heap.size) (pC u.1 u.2.1) 24 := Has.below (Has.new _ _ _ rfl) hB2
  clear hB2 hG1 hM1 hP1
  clear chM0 chM1 chM2 chM3 chM4 chM5 chP0 chP1 lhM lhP
  have chM0 : w2.cell? ⟨w.heap.size, 0, none⟩ = some (.int .i64 m0) := hM2.cell 0
  have chM1 : w2.cell? ⟨w.heap.size, 1, none⟩ = some (.int .i64 m1) := hM2.cell 1
  have chM2 : w2.cell? ⟨w.heap.size, 2, none⟩ = some (.int .i64 m2) := hM2.cell 2
  have chM3 : w2.cell? ⟨w.heap.size, 3, none⟩ = some (.int .i64 m3) := hM2.cell 3
  have chM4 : w2.cell? ⟨w.heap.size, 4, none⟩ = some (.int .i64 m4) := hM2.cell 4
  have chM5 : w2.cell? ⟨w.heap.size, 5, none⟩ = some (.int .i64 m5) := hM2.cell 5
  have lhM := hM2.lt
  have chP0 : w2.cell? ⟨w.heap.size + 1, 0, none⟩ = some (.int .i64 x) := hP2.cell 0
  have chP1 : w2.cell? ⟨w.heap.size + 1, 1, none⟩ = some (.int .i64 y) := hP2.cell 1
  have lhP := hP2.lt
  have chUu0 : w2.cell? ⟨w1.heap.size, 0, none⟩ = some (.int .i64 u.1) := hUu2.cell 0
  have chUu1 : w2.cell? ⟨w1.heap.size, 1, none⟩ = some (.int .i64 u.2.1) := hUu2.cell 1
  have lhUu := hUu2.lt
  go_wp2_with fail
  refine (cDelta _ _ _ _ _ _ _ _ _).mono ?_
  rintro e w3 ⟨rfl, hB3⟩
  obtain ⟨v, hv⟩ : ∃ u, deltaA m0 m1 m2 m3 x y = u := ⟨_, rfl⟩
  rw [hv]
  have Hv := Aside0.mk hv
  clear hv
  have hG3 : Below w.heap.size w w3 := below_step (by repeat (first | (with_reducible exact hG2) | apply below_alloc)) hB3
  have hH3 := hG3.size
  have hM3 : Has w3 (w.heap.size) (mC m0 m1 m2 m3 m4 m5) 22 := Has.below (by repeat (first | (with_reducible exact hM2) | apply Has.alloc)) hB3
  have hP3 : Has w3 (w.heap.size + 1) (pC x y) 24 := Has.below (by repeat (first | (with_reducible exact hP2) | apply Has.alloc)) hB3
  have hUu3 : Has w3 (w1.heap.size) (pC u.1 u.2.1) 24 := Has.below (by repeat (first | (with_reducible exact hUu2) | apply Has.alloc)) hB3
  have hUu23 : Has w3 (w2.heap.size) (pC u2.1 u2.2.1) 24 := Has.below (Has.new _ _ _ rfl) hB3
  clear hB3 hG2 hM2 hP2 hUu2
  clear chM0 chM1 chM2 chM3 chM4 chM5 chP0 chP1 chUu0 chUu1 lhM lhP lhUu
  have chM0 : w3.cell? ⟨w.heap.size, 0, none⟩ = some (.int .i64 m0) := hM3.cell 0
  have chM1 : w3.cell? ⟨w.heap.size, 1, none⟩ = some (.int .i64 m1) := hM3.cell 1
  have chM2 : w3.cell? ⟨w.heap.size, 2, none⟩ = some (.int .i64 m2) := hM3.cell 2
  have chM3 : w3.cell? ⟨w.heap.size, 3, none⟩ = some (.int .i64 m3) := hM3.cell 3
  have chM4 : w3.cell? ⟨w.heap.size, 4, none⟩ = some (.int .i64 m4) := hM3.cell 4
  have chM5 : w3.cell? ⟨w.heap.size, 5, none⟩ = some (.int .i64 m5) := hM3.cell 5
  have lhM := hM3.lt
  have chP0 : w3.cell? ⟨w.heap.size + 1, 0, none⟩ = some (.int .i64 x) := hP3.cell 0
  have chP1 : w3.cell? ⟨w.heap.size + 1, 1, none⟩ = some (.int .i64 y) := hP3.cell 1
  have lhP := hP3.lt
  have chUu0 : w3.cell? ⟨w1.heap.size, 0, none⟩ = some (.int .i64 u.1) := hUu3.cell 0
  have chUu1 : w3.cell? ⟨w1.heap.size, 1, none⟩ = some (.int .i64 u.2.1) := hUu3.cell 1
  have lhUu := hUu3.lt
  have chUu20 : w3.cell? ⟨w2.heap.size, 0, none⟩ = some (.int .i64 u2.1) := hUu23.cell 0
  have chUu21 : w3.cell? ⟨w2.heap.size, 1, none⟩ = some (.int .i64 u2.2.1) := hUu23.cell 1
  have lhUu2 := hUu23.lt
  go_wp2_with fail
  refine (rDelta _ _ _ _ _ _ _ _ _).mono ?_
  rintro e w4 ⟨rfl, hB4⟩
  obtain ⟨v2, hv2⟩ : ∃ u, deltaB m0 m1 m2 m3 x y = u := ⟨_, rfl⟩
  rw [hv2]
  have Hv2 := Aside0.mk hv2
  clear hv2
  have hG4 : Below w.heap.size w w4 := below_step (by repeat (first | (with_reducible exact hG3) | apply below_alloc)) hB4
  have hH4 := hG4.size
  have hM4 : Has w4 (w.heap.size) (mC m0 m1 m2 m3 m4 m5) 22 := Has.below (by repeat (first | (with_reducible exact hM3) | apply Has.alloc)) hB4
  have hP4 : Has w4 (w.heap.size + 1) (pC x y) 24 := Has.below (by repeat (first | (with_reducible exact hP3) | apply Has.alloc)) hB4
  have hUu4 : Has w4 (w1.heap.size) (pC u.1 u.2.1) 24 := Has.below (by repeat (first | (with_reducible exact hUu3) | apply Has.alloc)) hB4
  have hUu24 : Has w4 (w2.heap.size) (pC u2.1 u2.2.1) 24 := Has.below (by repeat (first | (with_reducible exact hUu23) | apply Has.alloc)) hB4
  have hUv4 : Has w4 (w3.heap.size) (pC v.1 v.2.1) 24 := Has.below (Has.new _ _ _ rfl) hB4
  clear hB4 hG3 hM3 hP3 hUu3 hUu23
  clear chM0 chM1 chM2 chM3 chM4 chM5 chP0 chP1 chUu0 chUu1 chUu20 chUu21 lhM lhP lhUu lhUu2
  have chM0 : w4.cell? ⟨w.heap.size, 0, none⟩ = some (.int .i64 m0) := hM4.cell 0
  have chM1 : w4.cell? ⟨w.heap.size, 1, none⟩ = some (.int .i64 m1) := hM4.cell 1
  have chM2 : w4.cell? ⟨w.heap.size, 2, none⟩ = some (.int .i64 m2) := hM4.cell 2
  have chM3 : w4.cell? ⟨w.heap.size, 3, none⟩ = some (.int .i64 m3) := hM4.cell 3
  have chM4 : w4.cell? ⟨w.heap.size, 4, none⟩ = some (.int .i64 m4) := hM4.cell 4
  have chM5 : w4.cell? ⟨w.heap.size, 5, none⟩ = some (.int .i64 m5) := hM4.cell 5
  have lhM := hM4.lt
  have chP0 : w4.cell? ⟨w.heap.size + 1, 0, none⟩ = some (.int .i64 x) := hP4.cell 0
  have chP1 : w4.cell? ⟨w.heap.size + 1, 1, none⟩ = some (.int .i64 y) := hP4.cell 1
  have lhP := hP4.lt
  have chUu0 : w4.cell? ⟨w1.heap.size, 0, none⟩ = some (.int .i64 u.1) := hUu4.cell 0
  have chUu1 : w4.cell? ⟨w1.heap.size, 1, none⟩ = some (.int .i64 u.2.1) := hUu4.cell 1
  have lhUu := hUu4.lt
  have chUu20 : w4.cell? ⟨w2.heap.size, 0, none⟩ = some (.int .i64 u2.1) := hUu24.cell 0
  have chUu21 : w4.cell? ⟨w2.heap.size, 1, none⟩ = some (.int .i64 u2.2.1) := hUu24.cell 1
  have lhUu2 := hUu24.lt
  have chUv0 : w4.cell? ⟨w3.heap.size, 0, none⟩ = some (.int .i64 v.1) := hUv4.cell 0
  have chUv1 : w4.cell? ⟨w3.heap.size, 1, none⟩ = some (.int .i64 v.2.1) := hUv4.cell 1
  have lhUv := hUv4.lt
  go_wp2_with fail
  refine (cAnswers _).mono ?_
  rintro e w5 ⟨rfl, hB5⟩
  have hG5 : Below w.heap.size w w5 := below_step (by repeat (first | (with_reducible exact hG4) | apply below_alloc)) hB5
  have hH5 := hG5.size
  have hM5 : Has w5 (w.heap.size) (mC m0 m1 m2 m3 m4 m5) 22 := Has.below (by repeat (first | (with_reducible exact hM4) | apply Has.alloc)) hB5
  have hP5 : Has w5 (w.heap.size + 1) (pC x y) 24 := Has.below (by repeat (first | (with_reducible exact hP4) | apply Has.alloc)) hB5
  have hUu5 : Has w5 (w1.heap.size) (pC u.1 u.2.1) 24 := Has.below (by repeat (first | (with_reducible exact hUu4) | apply Has.alloc)) hB5
  have hUu25 : Has w5 (w2.heap.size) (pC u2.1 u2.2.1) 24 := Has.below (by repeat (first | (with_reducible exact hUu24) | apply Has.alloc)) hB5
  have hUv5 : Has w5 (w3.heap.size) (pC v.1 v.2.1) 24 := Has.below (by repeat (first | (with_reducible exact hUv4) | apply Has.alloc)) hB5
  have hUv25 : Has w5 (w4.heap.size) (pC v2.1 v2.2.1) 24 := Has.below (Has.new _ _ _ rfl) hB5
  clear hB5 hG4 hM4 hP4 hUu4 hUu24 hUv4
  clear chM0 chM1 chM2 chM3 chM4 chM5 chP0 chP1 chUu0 chUu1 chUu20 chUu21 chUv0 chUv1 lhM lhP lhUu lhUu2 lhUv
  have chM0 : w5.cell? ⟨w.heap.size, 0, none⟩ = some (.int .i64 m0) := hM5.cell 0
  have chM1 : w5.cell? ⟨w.heap.size, 1, none⟩ = some (.int .i64 m1) := hM5.cell 1
  have chM2 : w5.cell? ⟨w.heap.size, 2, none⟩ = some (.int .i64 m2) := hM5.cell 2
  have chM3 : w5.cell? ⟨w.heap.size, 3, none⟩ = some (.int .i64 m3) := hM5.cell 3
  have chM4 : w5.cell? ⟨w.heap.size, 4, none⟩ = some (.int .i64 m4) := hM5.cell 4
  have chM5 : w5.cell? ⟨w.heap.size, 5, none⟩ = some (.int .i64 m5) := hM5.cell 5
  have lhM := hM5.lt
  have chP0 : w5.cell? ⟨w.heap.size + 1, 0, none⟩ = some (.int .i64 x) := hP5.cell 0
  have chP1 : w5.cell? ⟨w.heap.size + 1, 1, none⟩ = some (.int .i64 y) := hP5.cell 1
  have lhP := hP5.lt
  have chUu0 : w5.cell? ⟨w1.heap.size, 0, none⟩ = some (.int .i64 u.1) := hUu5.cell 0
  have chUu1 : w5.cell? ⟨w1.heap.size, 1, none⟩ = some (.int .i64 u.2.1) := hUu5.cell 1
  have lhUu := hUu5.lt
  have chUu20 : w5.cell? ⟨w2.heap.size, 0, none⟩ = some (.int .i64 u2.1) := hUu25.cell 0
  have chUu21 : w5.cell? ⟨w2.heap.size, 1, none⟩ = some (.int .i64 u2.2.1) := hUu25.cell 1
  have lhUu2 := hUu25.lt
  have chUv0 : w5.cell? ⟨w3.heap.size, 0, none⟩ = some (.int .i64 v.1) := hUv5.cell 0
  have chUv1 : w5.cell? ⟨w3.heap.size, 1, none⟩ = some (.int .i64 v.2.1) := hUv5.cell 1
  have lhUv := hUv5.lt
  have chUv20 : w5.cell? ⟨w4.heap.size, 0, none⟩ = some (.int .i64 v2.1) := hUv25.cell 0
  have chUv21 : w5.cell? ⟨w4.heap.size, 1, none⟩ = some (.int .i64 v2.2.1) := hUv25.cell 1
  have lhUv2 := hUv25.lt
  have hu2 : u2 = u := by rw [← Hu2.out, ← Hu.out, apply_same]
  have hv2 : v2 = v := by rw [← Hv2.out, ← Hv.out, delta_same]
  subst hu2 hv2
  have q1 := fun w => eqP_self u2.1 u2.2.1 w
  have q2 := fun w => eqP_self v2.1 v2.2.1 w
  go_wp2_with fail
  go_ret
  exact ⟨rfl, by repeat (first | (with_reducible first | exact hG5 | apply below_alloc | apply pw_below_drewN | apply below_drew1))⟩
end Go.Proofs.Ytkggogbgnphmpaa.Leads
