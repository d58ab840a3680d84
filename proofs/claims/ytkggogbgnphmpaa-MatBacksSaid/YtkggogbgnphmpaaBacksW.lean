/- The walk of the law MatBacks. -/
import Derived.Test.YtkggogbgnphmpaaEq
import Derived.Test.YtkggogbgnphmpaaBackB
import Derived.Test.YtkggogbgnphmpaaBackD
namespace Go.Proofs.Ytkggogbgnphmpaa.Backs
open Go.RowKit Go.Proofs.YtkggogbgnphmpaaW.PrintWords Go.Proofs.YtkggogbgnphmpaaW.PrintLast Go.Proofs.YtkggogbgnphmpaaW.PrintMore
open Go.Proofs.Ytkggogbgnphmpaa.Sem Go.Proofs.Ytkggogbgnphmpaa.Base Go.Proofs.Ytkggogbgnphmpaa.MatA 

set_option maxHeartbeats 1600000 in
set_option maxRecDepth 100000 in
theorem walk (m0 m1 m2 m3 m4 m5 : Int) (w : World) : Calls Try.prog 6 #[mV m0 m1 m2 m3 m4 m5] w fun e w' => e = .returned (.bool true) ∧ Below w.heap.size w w' := by
  go_enter Try.func6, Try.ntmps6
  go_wp2_with fail
  refine (cInvert _ _ _ _ _ _ _ ).mono ?_
  rintro e w1 ⟨rfl, hB1⟩
  obtain ⟨u, hu⟩ : ∃ u, invertR m0 m1 m2 m3 m4 m5 = u := ⟨_, rfl⟩
  rw [hu]
  have Hu := Aside0.mk hu
  clear hu
  have hG1 : Below w.heap.size w w1 := below_step (by repeat (first | exact Below.refl _ _ | apply below_alloc | apply pw_below_drewN | apply below_drew1)) hB1
  have hH1 := hG1.size
  have hM1 : Has w1 (w.heap.size) (mC m0 m1 m2 m3 m4 m5) 22 := Has.below (by repeat (first | exact Has.new _ _ _ (by simp) | apply Has.alloc)) hB1
  clear hB1 
  have chM0 : w1.cell? ⟨w.heap.size, 0, none⟩ = some (.int .i64 m0) := hM1.cell 0
  have chM1 : w1.cell? ⟨w.heap.size, 1, none⟩ = some (.int .i64 m1) := hM1.cell 1
  have chM2 : w1.cell? ⟨w.heap.size, 2, none⟩ = some (.int .i64 m2) := hM1.cell 2
  have chM3 : w1.cell? ⟨w.heap.size, 3, none⟩ = some (.int .i64 m3) := hM1.cell 3
  have chM4 : w1.cell? ⟨w.heap.size, 4, none⟩ = some (.int .i64 m4) := hM1.cell 4
  have chM5 : w1.cell? ⟨w.heap.size, 5, none⟩ = some (.int .i64 m5) := hM1.cell 5
  have lhM := hM1.lt
  go_wp2_with fail
  refine (rInvert _ _ _ _ _ _ _ ).mono ?_
  rintro e w2 ⟨rfl, hB2⟩
  obtain ⟨v, hv⟩ : ∃ u, invertR m0 m1 m2 m3 m4 m5 = u := ⟨_, rfl⟩
  rw [hv]
  have Hv := Aside0.mk hv
  clear hv
  have hG2 : Below w.heap.size w w2 := below_step (by repeat (first | (with_reducible exact hG1) | apply below_alloc)) hB2
  have hH2 := hG2.size
  have hM2 : Has w2 (w.heap.size) (mC m0 m1 m2 m3 m4 m5) 22 := Has.below (by repeat (first | (with_reducible exact hM1) | apply Has.alloc)) hB2
  have hUu2 : Has w2 (w1.heap.size) (mC u.a u.b u.c u.d u.e u.f) 22 := Has.below (Has.new _ _ _ rfl) hB2
  clear hB2 hG1 hM1
  clear chM0 chM1 chM2 chM3 chM4 chM5 lhM
  have chM0 : w2.cell? ⟨w.heap.size, 0, none⟩ = some (.int .i64 m0) := hM2.cell 0
  have chM1 : w2.cell? ⟨w.heap.size, 1, none⟩ = some (.int .i64 m1) := hM2.cell 1
  have chM2 : w2.cell? ⟨w.heap.size, 2, none⟩ = some (.int .i64 m2) := hM2.cell 2
  have chM3 : w2.cell? ⟨w.heap.size, 3, none⟩ = some (.int .i64 m3) := hM2.cell 3
  have chM4 : w2.cell? ⟨w.heap.size, 4, none⟩ = some (.int .i64 m4) := hM2.cell 4
  have chM5 : w2.cell? ⟨w.heap.size, 5, none⟩ = some (.int .i64 m5) := hM2.cell 5
  have lhM := hM2.lt
  have chUu0 : w2.cell? ⟨w1.heap.size, 0, none⟩ = some (.int .i64 u.a) := hUu2.cell 0
  have chUu1 : w2.cell? ⟨w1.heap.size, 1, none⟩ = some (.int .i64 u.b) := hUu2.cell 1
  have chUu2 : w2.cell? ⟨w1.heap.size, 2, none⟩ = some (.int .i64 u.c) := hUu2.cell 2
  have chUu3 : w2.cell? ⟨w1.heap.size, 3, none⟩ = some (.int .i64 u.d) := hUu2.cell 3
  have chUu4 : w2.cell? ⟨w1.heap.size, 4, none⟩ = some (.int .i64 u.e) := hUu2.cell 4
  have chUu5 : w2.cell? ⟨w1.heap.size, 5, none⟩ = some (.int .i64 u.f) := hUu2.cell 5
  have lhUu := hUu2.lt
  go_wp2_with fail
  refine (cScale _ _ _ _ _ _ _ ).mono ?_
  rintro e w3 ⟨rfl, hB3⟩
  obtain ⟨c, hc⟩ : ∃ u, scaleA m0 m1 m2 m3 = u := ⟨_, rfl⟩
  rw [hc]
  have Hc := Aside0.mk hc
  clear hc
  have hG3 : Below w.heap.size w w3 := below_step (by repeat (first | (with_reducible exact hG2) | apply below_alloc)) hB3
  have hH3 := hG3.size
  have hM3 : Has w3 (w.heap.size) (mC m0 m1 m2 m3 m4 m5) 22 := Has.below (by repeat (first | (with_reducible exact hM2) | apply Has.alloc)) hB3
  have hUu3 : Has w3 (w1.heap.size) (mC u.a u.b u.c u.d u.e u.f) 22 := Has.below (by repeat (first | (with_reducible exact hUu2) | apply Has.alloc)) hB3
  have hUv3 : Has w3 (w2.heap.size) (mC v.a v.b v.c v.d v.e v.f) 22 := Has.below (Has.new _ _ _ rfl) hB3
  clear hB3 hG2 hM2 hUu2
  clear chM0 chM1 chM2 chM3 chM4 chM5 chUu0 chUu1 chUu2 chUu3 chUu4 chUu5 lhM lhUu
  have chM0 : w3.cell? ⟨w.heap.size, 0, none⟩ = some (.int .i64 m0) := hM3.cell 0
  have chM1 : w3.cell? ⟨w.heap.size, 1, none⟩ = some (.int .i64 m1) := hM3.cell 1
  have chM2 : w3.cell? ⟨w.heap.size, 2, none⟩ = some (.int .i64 m2) := hM3.cell 2
  have chM3 : w3.cell? ⟨w.heap.size, 3, none⟩ = some (.int .i64 m3) := hM3.cell 3
  have chM4 : w3.cell? ⟨w.heap.size, 4, none⟩ = some (.int .i64 m4) := hM3.cell 4
  have chM5 : w3.cell? ⟨w.heap.size, 5, none⟩ = some (.int .i64 m5) := hM3.cell 5
  have lhM := hM3.lt
  have chUu0 : w3.cell? ⟨w1.heap.size, 0, none⟩ = some (.int .i64 u.a) := hUu3.cell 0
  have chUu1 : w3.cell? ⟨w1.heap.size, 1, none⟩ = some (.int .i64 u.b) := hUu3.cell 1
  have chUu2 : w3.cell? ⟨w1.heap.size, 2, none⟩ = some (.int .i64 u.c) := hUu3.cell 2
  have chUu3 : w3.cell? ⟨w1.heap.size, 3, none⟩ = some (.int .i64 u.d) := hUu3.cell 3
  have chUu4 : w3.cell? ⟨w1.heap.size, 4, none⟩ = some (.int .i64 u.e) := hUu3.cell 4
  have chUu5 : w3.cell? ⟨w1.heap.size, 5, none⟩ = some (.int .i64 u.f) := hUu3.cell 5
  have lhUu := hUu3.lt
  have chUv0 : w3.cell? ⟨w2.heap.size, 0, none⟩ = some (.int .i64 v.a) := hUv3.cell 0
  have chUv1 : w3.cell? ⟨w2.heap.size, 1, none⟩ = some (.int .i64 v.b) := hUv3.cell 1
  have chUv2 : w3.cell? ⟨w2.heap.size, 2, none⟩ = some (.int .i64 v.c) := hUv3.cell 2
  have chUv3 : w3.cell? ⟨w2.heap.size, 3, none⟩ = some (.int .i64 v.d) := hUv3.cell 3
  have chUv4 : w3.cell? ⟨w2.heap.size, 4, none⟩ = some (.int .i64 v.e) := hUv3.cell 4
  have chUv5 : w3.cell? ⟨w2.heap.size, 5, none⟩ = some (.int .i64 v.f) := hUv3.cell 5
  have lhUv := hUv3.lt
  go_wp2_with fail
  refine (rScale _ _ _ _ _ _ _ ).mono ?_
  rintro e w4 ⟨rfl, hB4⟩
  obtain ⟨d, hd⟩ : ∃ u, scaleB m0 m1 m2 m3 = u := ⟨_, rfl⟩
  rw [hd]
  have Hd := Aside0.mk hd
  clear hd
  have hG4 : Below w.heap.size w w4 := below_step (by repeat (first | (with_reducible exact hG3) | apply below_alloc)) hB4
  have hH4 := hG4.size
  have hM4 : Has w4 (w.heap.size) (mC m0 m1 m2 m3 m4 m5) 22 := Has.below (by repeat (first | (with_reducible exact hM3) | apply Has.alloc)) hB4
  have hUu4 : Has w4 (w1.heap.size) (mC u.a u.b u.c u.d u.e u.f) 22 := Has.below (by repeat (first | (with_reducible exact hUu3) | apply Has.alloc)) hB4
  have hUv4 : Has w4 (w2.heap.size) (mC v.a v.b v.c v.d v.e v.f) 22 := Has.below (by repeat (first | (with_reducible exact hUv3) | apply Has.alloc)) hB4
  clear hB4 hG3 hM3 hUu3 hUv3
  clear chM0 chM1 chM2 chM3 chM4 chM5 chUu0 chUu1 chUu2 chUu3 chUu4 chUu5 chUv0 chUv1 chUv2 chUv3 chUv4 chUv5 lhM lhUu lhUv
  have chM0 : w4.cell? ⟨w.heap.size, 0, none⟩ = some (.int .i64 m0) := hM4.cell 0
  have chM1 : w4.cell? ⟨w.heap.size, 1, none⟩ = some (.int .i64 m1) := hM4.cell 1
  have chM2 : w4.cell? ⟨w.heap.size, 2, none⟩ = some (.int .i64 m2) := hM4.cell 2
  have chM3 : w4.cell? ⟨w.heap.size, 3, none⟩ = some (.int .i64 m3) := hM4.cell 3
  have chM4 : w4.cell? ⟨w.heap.size, 4, none⟩ = some (.int .i64 m4) := hM4.cell 4
  have chM5 : w4.cell? ⟨w.heap.size, 5, none⟩ = some (.int .i64 m5) := hM4.cell 5
  have lhM := hM4.lt
  have chUu0 : w4.cell? ⟨w1.heap.size, 0, none⟩ = some (.int .i64 u.a) := hUu4.cell 0
  have chUu1 : w4.cell? ⟨w1.heap.size, 1, none⟩ = some (.int .i64 u.b) := hUu4.cell 1
  have chUu2 : w4.cell? ⟨w1.heap.size, 2, none⟩ = some (.int .i64 u.c) := hUu4.cell 2
  have chUu3 : w4.cell? ⟨w1.heap.size, 3, none⟩ = some (.int .i64 u.d) := hUu4.cell 3
  have chUu4 : w4.cell? ⟨w1.heap.size, 4, none⟩ = some (.int .i64 u.e) := hUu4.cell 4
  have chUu5 : w4.cell? ⟨w1.heap.size, 5, none⟩ = some (.int .i64 u.f) := hUu4.cell 5
  have lhUu := hUu4.lt
  have chUv0 : w4.cell? ⟨w2.heap.size, 0, none⟩ = some (.int .i64 v.a) := hUv4.cell 0
  have chUv1 : w4.cell? ⟨w2.heap.size, 1, none⟩ = some (.int .i64 v.b) := hUv4.cell 1
  have chUv2 : w4.cell? ⟨w2.heap.size, 2, none⟩ = some (.int .i64 v.c) := hUv4.cell 2
  have chUv3 : w4.cell? ⟨w2.heap.size, 3, none⟩ = some (.int .i64 v.d) := hUv4.cell 3
  have chUv4 : w4.cell? ⟨w2.heap.size, 4, none⟩ = some (.int .i64 v.e) := hUv4.cell 4
  have chUv5 : w4.cell? ⟨w2.heap.size, 5, none⟩ = some (.int .i64 v.f) := hUv4.cell 5
  have lhUv := hUv4.lt
  go_wp2_with fail
  refine (cAnswers _).mono ?_
  rintro e w5 ⟨rfl, hB5⟩
  have hG5 : Below w.heap.size w w5 := below_step (by repeat (first | (with_reducible exact hG4) | apply below_alloc)) hB5
  have hH5 := hG5.size
  have hM5 : Has w5 (w.heap.size) (mC m0 m1 m2 m3 m4 m5) 22 := Has.below (by repeat (first | (with_reducible exact hM4) | apply Has.alloc)) hB5
  have hUu5 : Has w5 (w1.heap.size) (mC u.a u.b u.c u.d u.e u.f) 22 := Has.below (by repeat (first | (with_reducible exact hUu4) | apply Has.alloc)) hB5
  have hUv5 : Has w5 (w2.heap.size) (mC v.a v.b v.c v.d v.e v.f) 22 := Has.below (by repeat (first | (with_reducible exact hUv4) | apply Has.alloc)) hB5
  clear hB5 hG4 hM4 hUu4 hUv4
  clear chM0 chM1 chM2 chM3 chM4 chM5 chUu0 chUu1 chUu2 chUu3 chUu4 chUu5 chUv0 chUv1 chUv2 chUv3 chUv4 chUv5 lhM lhUu lhUv
  have chM0 : w5.cell? ⟨w.heap.size, 0, none⟩ = some (.int .i64 m0) := hM5.cell 0
  have chM1 : w5.cell? ⟨w.heap.size, 1, none⟩ = some (.int .i64 m1) := hM5.cell 1
  have chM2 : w5.cell? ⟨w.heap.size, 2, none⟩ = some (.int .i64 m2) := hM5.cell 2
  have chM3 : w5.cell? ⟨w.heap.size, 3, none⟩ = some (.int .i64 m3) := hM5.cell 3
  have chM4 : w5.cell? ⟨w.heap.size, 4, none⟩ = some (.int .i64 m4) := hM5.cell 4
  have chM5 : w5.cell? ⟨w.heap.size, 5, none⟩ = some (.int .i64 m5) := hM5.cell 5
  have lhM := hM5.lt
  have chUu0 : w5.cell? ⟨w1.heap.size, 0, none⟩ = some (.int .i64 u.a) := hUu5.cell 0
  have chUu1 : w5.cell? ⟨w1.heap.size, 1, none⟩ = some (.int .i64 u.b) := hUu5.cell 1
  have chUu2 : w5.cell? ⟨w1.heap.size, 2, none⟩ = some (.int .i64 u.c) := hUu5.cell 2
  have chUu3 : w5.cell? ⟨w1.heap.size, 3, none⟩ = some (.int .i64 u.d) := hUu5.cell 3
  have chUu4 : w5.cell? ⟨w1.heap.size, 4, none⟩ = some (.int .i64 u.e) := hUu5.cell 4
  have chUu5 : w5.cell? ⟨w1.heap.size, 5, none⟩ = some (.int .i64 u.f) := hUu5.cell 5
  have lhUu := hUu5.lt
  have chUv0 : w5.cell? ⟨w2.heap.size, 0, none⟩ = some (.int .i64 v.a) := hUv5.cell 0
  have chUv1 : w5.cell? ⟨w2.heap.size, 1, none⟩ = some (.int .i64 v.b) := hUv5.cell 1
  have chUv2 : w5.cell? ⟨w2.heap.size, 2, none⟩ = some (.int .i64 v.c) := hUv5.cell 2
  have chUv3 : w5.cell? ⟨w2.heap.size, 3, none⟩ = some (.int .i64 v.d) := hUv5.cell 3
  have chUv4 : w5.cell? ⟨w2.heap.size, 4, none⟩ = some (.int .i64 v.e) := hUv5.cell 4
  have chUv5 : w5.cell? ⟨w2.heap.size, 5, none⟩ = some (.int .i64 v.f) := hUv5.cell 5
  have lhUv := hUv5.lt
  have hvu : v = u := by rw [← Hv.out, ← Hu.out]
  subst hvu
  have hcd : d = c := by rw [← Hd.out, ← Hc.out, scale_same]
  subst hcd
  clear Hu Hv Hc Hd
  have q1 := fun w => eqM_self v.a v.b v.c v.d v.e v.f w
  go_wp2_with fail
  go_ret
  exact ⟨rfl, by repeat (first | (with_reducible first | exact hG5 | apply below_alloc | apply pw_below_drewN | apply below_drew1))⟩
end Go.Proofs.Ytkggogbgnphmpaa.Backs
