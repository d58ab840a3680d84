/- The walks of the document's longer functions on matrices: each makes what the plain text says. -/
import Derived.Test.YtkggogbgnphmpaaRefB
namespace Go.Proofs.Ytkggogbgnphmpaa.RefC
open Go.RowKit Go.Proofs.YtkggogbgnphmpaaW.PrintWords Go.Proofs.YtkggogbgnphmpaaW.PrintLast Go.Proofs.YtkggogbgnphmpaaW.PrintMore
open Go.Proofs.Ytkggogbgnphmpaa.Sem Go.Proofs.Ytkggogbgnphmpaa.Base Go.Proofs.Ytkggogbgnphmpaa.MatA Go.Proofs.Ytkggogbgnphmpaa.RefB

set_option maxHeartbeats 1600000 in
set_option maxRecDepth 100000 in
theorem rConcat (a0 a1 a2 a3 a4 a5 b0 b1 b2 b3 b4 b5 : Int) (w : World) :
    Calls Try.prog 17 #[mV a0 a1 a2 a3 a4 a5, mV b0 b1 b2 b3 b4 b5] w fun e w' => e = .returned (r6V (concatR deltaB applyB a0 a1 a2 a3 a4 a5 b0 b1 b2 b3 b4 b5)) ∧ Below w.heap.size w w' := by
  go_enter Try.func17, Try.ntmps17
  go_wp2_with fail
  refine (rDelta _ _ _ _ _ _ _ _ _).mono ?_
  rintro e w1 ⟨rfl, hB1⟩
  have hA1 : Has w1 (w.heap.size) (mC a0 a1 a2 a3 a4 a5) 22 := Has.below (by repeat (first | exact Has.new _ _ _ (by simp) | apply Has.alloc)) hB1
  have hC1 : Has w1 (w.heap.size + 1) (mC b0 b1 b2 b3 b4 b5) 22 := Has.below (by repeat (first | exact Has.new _ _ _ (by simp) | apply Has.alloc)) hB1
  have hR1 : Has w1 (w.heap.size + 1 + 1) (mC 0 0 0 0 0 0) 22 := Has.below (by repeat (first | exact Has.new _ _ _ (by simp) | apply Has.alloc)) hB1
  have hG1 : Below w.heap.size w w1 := below_step (by repeat (first | exact Below.refl _ _ | apply below_alloc | apply pw_below_drewN | apply below_drew1)) hB1
  have hH1 := hG1.size
  clear hB1
  obtain ⟨u1, hu1⟩ : ∃ u, (deltaB b0 b1 b2 b3 a0 a1) = u := ⟨_, rfl⟩
  rw [hu1]
  have HU1 := Aside0.mk hu1
  clear hu1
  have ca0 : w1.cell? ⟨w.heap.size, 0, none⟩ = some (.int .i64 a0) := hA1.cell 0
  have ca1 : w1.cell? ⟨w.heap.size, 1, none⟩ = some (.int .i64 a1) := hA1.cell 1
  have ca2 : w1.cell? ⟨w.heap.size, 2, none⟩ = some (.int .i64 a2) := hA1.cell 2
  have ca3 : w1.cell? ⟨w.heap.size, 3, none⟩ = some (.int .i64 a3) := hA1.cell 3
  have ca4 : w1.cell? ⟨w.heap.size, 4, none⟩ = some (.int .i64 a4) := hA1.cell 4
  have ca5 : w1.cell? ⟨w.heap.size, 5, none⟩ = some (.int .i64 a5) := hA1.cell 5
  have cb0 : w1.cell? ⟨w.heap.size + 1, 0, none⟩ = some (.int .i64 b0) := hC1.cell 0
  have cb1 : w1.cell? ⟨w.heap.size + 1, 1, none⟩ = some (.int .i64 b1) := hC1.cell 1
  have cb2 : w1.cell? ⟨w.heap.size + 1, 2, none⟩ = some (.int .i64 b2) := hC1.cell 2
  have cb3 : w1.cell? ⟨w.heap.size + 1, 3, none⟩ = some (.int .i64 b3) := hC1.cell 3
  have cb4 : w1.cell? ⟨w.heap.size + 1, 4, none⟩ = some (.int .i64 b4) := hC1.cell 4
  have cb5 : w1.cell? ⟨w.heap.size + 1, 5, none⟩ = some (.int .i64 b5) := hC1.cell 5
  have cr0 : w1.cell? ⟨w.heap.size + 1 + 1, 0, none⟩ = some (.int .i64 0) := hR1.cell 0
  have cr1 : w1.cell? ⟨w.heap.size + 1 + 1, 1, none⟩ = some (.int .i64 0) := hR1.cell 1
  have cr2 : w1.cell? ⟨w.heap.size + 1 + 1, 2, none⟩ = some (.int .i64 0) := hR1.cell 2
  have cr3 : w1.cell? ⟨w.heap.size + 1 + 1, 3, none⟩ = some (.int .i64 0) := hR1.cell 3
  have cr4 : w1.cell? ⟨w.heap.size + 1 + 1, 4, none⟩ = some (.int .i64 0) := hR1.cell 4
  have cr5 : w1.cell? ⟨w.heap.size + 1 + 1, 5, none⟩ = some (.int .i64 0) := hR1.cell 5
  have fr0 : w1.frozen? ⟨w.heap.size + 1 + 1, 0, none⟩ = false := hR1.free 0
  have fr1 : w1.frozen? ⟨w.heap.size + 1 + 1, 1, none⟩ = false := hR1.free 1
  have fr2 : w1.frozen? ⟨w.heap.size + 1 + 1, 2, none⟩ = false := hR1.free 2
  have fr3 : w1.frozen? ⟨w.heap.size + 1 + 1, 3, none⟩ = false := hR1.free 3
  have fr4 : w1.frozen? ⟨w.heap.size + 1 + 1, 4, none⟩ = false := hR1.free 4
  have fr5 : w1.frozen? ⟨w.heap.size + 1 + 1, 5, none⟩ = false := hR1.free 5
  have hL1 := hR1.lt
  have ne0 : w.heap.size < w1.heap.size := by omega
  have ne1 : w.heap.size + 1 < w1.heap.size := by omega
  have ne2 : w.heap.size + 1 + 1 < w1.heap.size := by omega
  by_cases hs1 : ¬ u1.2.2 = 0
  · have e1 : (u1.2.2 != 0) = true := bne_iff_ne.mpr hs1
    have E := Aside0.mk (show concatR deltaB applyB a0 a1 a2 a3 a4 a5 b0 b1 b2 b3 b4 b5 = zero6 u1.2.2 by unfold concatR; rw [HU1.out, if_neg hs1])
    clear hs1
    go_wp2_with fail
    exact bodyPost_ret (out6 Try.results17 (v0 := 0) (v1 := 0) (v2 := 0) (v3 := 0) (v4 := 0) (v5 := 0) (e := u1.2.2) rfl rfl (((((((hR1.set 0 (.int .i64 0)).set 1 (.int .i64 0)).set 2 (.int .i64 0)).set 3 (.int .i64 0)).set 4 (.int .i64 0)).set 5 (.int .i64 0)).alloc (.cells (pC u1.1 u1.2.1) 24))) rfl ⟨by rw [E.out]; rfl, by repeat (first | (with_reducible first | exact hG1 | apply below_alloc | apply pw_below_drewN | apply below_drew1) | (with_reducible refine below_set ?_ (by omega)))⟩
  replace hs1 := Decidable.not_not.mp hs1
  have e1 : (u1.2.2 != 0) = false := bne_eq_false_iff_eq.mpr hs1
  have HS1 := Aside0.mk hs1
  clear hs1
  go_wp2_with fail
  refine (rDelta _ _ _ _ _ _ _ _ _).mono ?_
  rintro e w2 ⟨rfl, hB2⟩
  have hA2 : Has w2 (w.heap.size) (mC a0 a1 a2 a3 a4 a5) 22 := Has.below (hA1.alloc _) hB2
  have hC2 : Has w2 (w.heap.size + 1) (mC b0 b1 b2 b3 b4 b5) 22 := Has.below (hC1.alloc _) hB2
  have hR2 : Has w2 (w.heap.size + 1 + 1) (mC 0 0 0 0 0 0) 22 := Has.below (hR1.alloc _) hB2
  have hU12 : Has w2 w1.heap.size (pC u1.1 u1.2.1) 24 := Has.below (Has.new _ _ _ rfl) hB2
  have hG2 : Below w.heap.size w w2 := below_step (below_alloc hG1 _) hB2
  have hH2 := hG2.size
  clear hB2
  clear ne0 ne1 ne2 hL1 ca0 ca1 ca2 ca3 ca4 ca5 cb0 cb1 cb2 cb3 cb4 cb5 cr0 cr1 cr2 cr3 cr4 cr5 fr0 fr1 fr2 fr3 fr4 fr5 hA1 hC1 hR1 hG1
  obtain ⟨u2, hu2⟩ : ∃ u, (deltaB b0 b1 b2 b3 a2 a3) = u := ⟨_, rfl⟩
  rw [hu2]
  have HU2 := Aside0.mk hu2
  clear hu2
  have ca0 : w2.cell? ⟨w.heap.size, 0, none⟩ = some (.int .i64 a0) := hA2.cell 0
  have ca1 : w2.cell? ⟨w.heap.size, 1, none⟩ = some (.int .i64 a1) := hA2.cell 1
  have ca2 : w2.cell? ⟨w.heap.size, 2, none⟩ = some (.int .i64 a2) := hA2.cell 2
  have ca3 : w2.cell? ⟨w.heap.size, 3, none⟩ = some (.int .i64 a3) := hA2.cell 3
  have ca4 : w2.cell? ⟨w.heap.size, 4, none⟩ = some (.int .i64 a4) := hA2.cell 4
  have ca5 : w2.cell? ⟨w.heap.size, 5, none⟩ = some (.int .i64 a5) := hA2.cell 5
  have cb0 : w2.cell? ⟨w.heap.size + 1, 0, none⟩ = some (.int .i64 b0) := hC2.cell 0
  have cb1 : w2.cell? ⟨w.heap.size + 1, 1, none⟩ = some (.int .i64 b1) := hC2.cell 1
  have cb2 : w2.cell? ⟨w.heap.size + 1, 2, none⟩ = some (.int .i64 b2) := hC2.cell 2
  have cb3 : w2.cell? ⟨w.heap.size + 1, 3, none⟩ = some (.int .i64 b3) := hC2.cell 3
  have cb4 : w2.cell? ⟨w.heap.size + 1, 4, none⟩ = some (.int .i64 b4) := hC2.cell 4
  have cb5 : w2.cell? ⟨w.heap.size + 1, 5, none⟩ = some (.int .i64 b5) := hC2.cell 5
  have cr0 : w2.cell? ⟨w.heap.size + 1 + 1, 0, none⟩ = some (.int .i64 0) := hR2.cell 0
  have cr1 : w2.cell? ⟨w.heap.size + 1 + 1, 1, none⟩ = some (.int .i64 0) := hR2.cell 1
  have cr2 : w2.cell? ⟨w.heap.size + 1 + 1, 2, none⟩ = some (.int .i64 0) := hR2.cell 2
  have cr3 : w2.cell? ⟨w.heap.size + 1 + 1, 3, none⟩ = some (.int .i64 0) := hR2.cell 3
  have cr4 : w2.cell? ⟨w.heap.size + 1 + 1, 4, none⟩ = some (.int .i64 0) := hR2.cell 4
  have cr5 : w2.cell? ⟨w.heap.size + 1 + 1, 5, none⟩ = some (.int .i64 0) := hR2.cell 5
  have fr0 : w2.frozen? ⟨w.heap.size + 1 + 1, 0, none⟩ = false := hR2.free 0
  have fr1 : w2.frozen? ⟨w.heap.size + 1 + 1, 1, none⟩ = false := hR2.free 1
  have fr2 : w2.frozen? ⟨w.heap.size + 1 + 1, 2, none⟩ = false := hR2.free 2
  have fr3 : w2.frozen? ⟨w.heap.size + 1 + 1, 3, none⟩ = false := hR2.free 3
  have fr4 : w2.frozen? ⟨w.heap.size + 1 + 1, 4, none⟩ = false := hR2.free 4
  have fr5 : w2.frozen? ⟨w.heap.size + 1 + 1, 5, none⟩ = false := hR2.free 5
  have hL2 := hR2.lt
  have ne0 : w.heap.size < w2.heap.size := by omega
  have ne1 : w.heap.size + 1 < w2.heap.size := by omega
  have ne2 : w.heap.size + 1 + 1 < w2.heap.size := by omega
  have ne3 : w1.heap.size < w2.heap.size := by have := hU12.lt; omega
  by_cases hs2 : ¬ u2.2.2 = 0
  · have e1 : (u2.2.2 != 0) = true := bne_iff_ne.mpr hs2
    have E := Aside0.mk (show concatR deltaB applyB a0 a1 a2 a3 a4 a5 b0 b1 b2 b3 b4 b5 = zero6 u2.2.2 by unfold concatR; rw [HU1.out, if_pos HS1.out, HU2.out, if_neg hs2])
    clear hs2
    go_wp2_with fail
    exact bodyPost_ret (out6 Try.results17 (v0 := 0) (v1 := 0) (v2 := 0) (v3 := 0) (v4 := 0) (v5 := 0) (e := u2.2.2) rfl rfl (((((((hR2.set 0 (.int .i64 0)).set 1 (.int .i64 0)).set 2 (.int .i64 0)).set 3 (.int .i64 0)).set 4 (.int .i64 0)).set 5 (.int .i64 0)).alloc (.cells (pC u2.1 u2.2.1) 24))) rfl ⟨by rw [E.out]; rfl, by repeat (first | (with_reducible first | exact hG2 | apply below_alloc | apply pw_below_drewN | apply below_drew1) | (with_reducible refine below_set ?_ (by omega)))⟩
  replace hs2 := Decidable.not_not.mp hs2
  have e2 : (u2.2.2 != 0) = false := bne_eq_false_iff_eq.mpr hs2
  have HS2 := Aside0.mk hs2
  clear hs2
  go_wp2_with fail
  refine (rApply _ _ _ _ _ _ _ _ _).mono ?_
  rintro e w3 ⟨rfl, hB3⟩
  have hA3 : Has w3 (w.heap.size) (mC a0 a1 a2 a3 a4 a5) 22 := Has.below (hA2.alloc _) hB3
  have hC3 : Has w3 (w.heap.size + 1) (mC b0 b1 b2 b3 b4 b5) 22 := Has.below (hC2.alloc _) hB3
  have hR3 : Has w3 (w.heap.size + 1 + 1) (mC 0 0 0 0 0 0) 22 := Has.below (hR2.alloc _) hB3
  have hU13 : Has w3 w1.heap.size (pC u1.1 u1.2.1) 24 := Has.below (hU12.alloc _) hB3
  have hU23 : Has w3 w2.heap.size (pC u2.1 u2.2.1) 24 := Has.below (Has.new _ _ _ rfl) hB3
  have hG3 : Below w.heap.size w w3 := below_step (below_alloc hG2 _) hB3
  have hH3 := hG3.size
  clear hB3
  clear ne0 ne1 ne2 ne3 hL2 ca0 ca1 ca2 ca3 ca4 ca5 cb0 cb1 cb2 cb3 cb4 cb5 cr0 cr1 cr2 cr3 cr4 cr5 fr0 fr1 fr2 fr3 fr4 fr5 hA2 hC2 hR2 hG2 hU12
  obtain ⟨u3, hu3⟩ : ∃ u, (applyB b0 b1 b2 b3 b4 b5 a4 a5) = u := ⟨_, rfl⟩
  rw [hu3]
  have HU3 := Aside0.mk hu3
  clear hu3
  have ca0 : w3.cell? ⟨w.heap.size, 0, none⟩ = some (.int .i64 a0) := hA3.cell 0
  have ca1 : w3.cell? ⟨w.heap.size, 1, none⟩ = some (.int .i64 a1) := hA3.cell 1
  have ca2 : w3.cell? ⟨w.heap.size, 2, none⟩ = some (.int .i64 a2) := hA3.cell 2
  have ca3 : w3.cell? ⟨w.heap.size, 3, none⟩ = some (.int .i64 a3) := hA3.cell 3
  have ca4 : w3.cell? ⟨w.heap.size, 4, none⟩ = some (.int .i64 a4) := hA3.cell 4
  have ca5 : w3.cell? ⟨w.heap.size, 5, none⟩ = some (.int .i64 a5) := hA3.cell 5
  have cb0 : w3.cell? ⟨w.heap.size + 1, 0, none⟩ = some (.int .i64 b0) := hC3.cell 0
  have cb1 : w3.cell? ⟨w.heap.size + 1, 1, none⟩ = some (.int .i64 b1) := hC3.cell 1
  have cb2 : w3.cell? ⟨w.heap.size + 1, 2, none⟩ = some (.int .i64 b2) := hC3.cell 2
  have cb3 : w3.cell? ⟨w.heap.size + 1, 3, none⟩ = some (.int .i64 b3) := hC3.cell 3
  have cb4 : w3.cell? ⟨w.heap.size + 1, 4, none⟩ = some (.int .i64 b4) := hC3.cell 4
  have cb5 : w3.cell? ⟨w.heap.size + 1, 5, none⟩ = some (.int .i64 b5) := hC3.cell 5
  have cr0 : w3.cell? ⟨w.heap.size + 1 + 1, 0, none⟩ = some (.int .i64 0) := hR3.cell 0
  have cr1 : w3.cell? ⟨w.heap.size + 1 + 1, 1, none⟩ = some (.int .i64 0) := hR3.cell 1
  have cr2 : w3.cell? ⟨w.heap.size + 1 + 1, 2, none⟩ = some (.int .i64 0) := hR3.cell 2
  have cr3 : w3.cell? ⟨w.heap.size + 1 + 1, 3, none⟩ = some (.int .i64 0) := hR3.cell 3
  have cr4 : w3.cell? ⟨w.heap.size + 1 + 1, 4, none⟩ = some (.int .i64 0) := hR3.cell 4
  have cr5 : w3.cell? ⟨w.heap.size + 1 + 1, 5, none⟩ = some (.int .i64 0) := hR3.cell 5
  have fr0 : w3.frozen? ⟨w.heap.size + 1 + 1, 0, none⟩ = false := hR3.free 0
  have fr1 : w3.frozen? ⟨w.heap.size + 1 + 1, 1, none⟩ = false := hR3.free 1
  have fr2 : w3.frozen? ⟨w.heap.size + 1 + 1, 2, none⟩ = false := hR3.free 2
  have fr3 : w3.frozen? ⟨w.heap.size + 1 + 1, 3, none⟩ = false := hR3.free 3
  have fr4 : w3.frozen? ⟨w.heap.size + 1 + 1, 4, none⟩ = false := hR3.free 4
  have fr5 : w3.frozen? ⟨w.heap.size + 1 + 1, 5, none⟩ = false := hR3.free 5
  have hL3 := hR3.lt
  have ne0 : w.heap.size < w3.heap.size := by omega
  have ne1 : w.heap.size + 1 < w3.heap.size := by omega
  have ne2 : w.heap.size + 1 + 1 < w3.heap.size := by omega
  have ne3 : w1.heap.size < w3.heap.size := by have := hU13.lt; omega
  have ne4 : w2.heap.size < w3.heap.size := by have := hU23.lt; omega
  by_cases hs3 : ¬ u3.2.2 = 0
  · have e1 : (u3.2.2 != 0) = true := bne_iff_ne.mpr hs3
    have E := Aside0.mk (show concatR deltaB applyB a0 a1 a2 a3 a4 a5 b0 b1 b2 b3 b4 b5 = zero6 u3.2.2 by unfold concatR; rw [HU1.out, if_pos HS1.out, HU2.out, if_pos HS2.out, HU3.out, if_neg hs3])
    clear hs3
    go_wp2_with fail
    exact bodyPost_ret (out6 Try.results17 (v0 := 0) (v1 := 0) (v2 := 0) (v3 := 0) (v4 := 0) (v5 := 0) (e := u3.2.2) rfl rfl (((((((hR3.set 0 (.int .i64 0)).set 1 (.int .i64 0)).set 2 (.int .i64 0)).set 3 (.int .i64 0)).set 4 (.int .i64 0)).set 5 (.int .i64 0)).alloc (.cells (pC u3.1 u3.2.1) 24))) rfl ⟨by rw [E.out]; rfl, by repeat (first | (with_reducible first | exact hG3 | apply below_alloc | apply pw_below_drewN | apply below_drew1) | (with_reducible refine below_set ?_ (by omega)))⟩
  replace hs3 := Decidable.not_not.mp hs3
  have e3 : (u3.2.2 != 0) = false := bne_eq_false_iff_eq.mpr hs3
  have HS3 := Aside0.mk hs3
  clear hs3
  have E := Aside0.mk (show concatR deltaB applyB a0 a1 a2 a3 a4 a5 b0 b1 b2 b3 b4 b5 = ⟨u1.1, u1.2.1, u2.1, u2.2.1, u3.1, u3.2.1, 0⟩ by unfold concatR; rw [HU1.out, if_pos HS1.out, HU2.out, if_pos HS2.out, HU3.out, if_pos HS3.out])
  have p0 : w3.cell? ⟨w1.heap.size, 0, none⟩ = some (.int .i64 u1.1) := hU13.cell 0
  have p1 : w3.cell? ⟨w1.heap.size, 1, none⟩ = some (.int .i64 u1.2.1) := hU13.cell 1
  have q0 : w3.cell? ⟨w2.heap.size, 0, none⟩ = some (.int .i64 u2.1) := hU23.cell 0
  have q1 : w3.cell? ⟨w2.heap.size, 1, none⟩ = some (.int .i64 u2.2.1) := hU23.cell 1
  go_wp2_with fail
  exact bodyPost_ret (out6 Try.results17 (v0 := u1.1) (v1 := u1.2.1) (v2 := u2.1) (v3 := u2.2.1) (v4 := u3.1) (v5 := u3.2.1) (e := 0) rfl rfl (((((((hR3.set 0 (.int .i64 u1.1)).set 1 (.int .i64 u1.2.1)).set 2 (.int .i64 u2.1)).set 3 (.int .i64 u2.2.1)).set 4 (.int .i64 u3.1)).set 5 (.int .i64 u3.2.1)).alloc (.cells (pC u3.1 u3.2.1) 24))) rfl ⟨by rw [E.out], by repeat (first | (with_reducible first | exact hG3 | apply below_alloc | apply pw_below_drewN | apply below_drew1) | (with_reducible refine below_set ?_ (by omega)))⟩

end Go.Proofs.Ytkggogbgnphmpaa.RefC
