/- The walk of the law MatJoins. -/
import Derived.Test.YtkggogbgnphmpaaEq
import Derived.Test.YtkggogbgnphmpaaMatB
import Derived.Test.YtkggogbgnphmpaaRefC
import Derived.Test.YtkggogbgnphmpaaSem2
import Derived.Test.YtkggogbgnphmpaaEq
import Derived.Deep.DrawnRows
import Derived.Deep.DeepCutAuto
import Derived.Outline
namespace Go.Proofs.Ytkggogbgnphmpaa.Joins
open Go.RowKit Go.Proofs.YtkggogbgnphmpaaW.PrintWords Go.Proofs.YtkggogbgnphmpaaW.PrintLast Go.Proofs.YtkggogbgnphmpaaW.PrintMore
open Go.Proofs.Ytkggogbgnphmpaa.MatA Go.Proofs.Ytkggogbgnphmpaa.Sem Go.Proofs.Ytkggogbgnphmpaa.Sem Go.Proofs.Ytkggogbgnphmpaa.Base Go.Proofs.Ytkggogbgnphmpaa.MatA Go.Proofs.Ytkggogbgnphmpaa.MatB Go.Proofs.Ytkggogbgnphmpaa.RefC
attribute [local go_sem ↓] Go.wp_at_zero Go.wp_at_succ

/-- Do the first n of six numbers fit? -/
def pre (a0 a1 a2 a3 a4 a5 : Int) (n : Int) : Bool := (decide (n < 1) || fitB a0) && (decide (n < 2) || fitB a1) && (decide (n < 3) || fitB a2) && (decide (n < 4) || fitB a3) && (decide (n < 5) || fitB a4) && (decide (n < 6) || fitB a5)
theorem pre_1 (a0 a1 a2 a3 a4 a5 : Int) : pre a0 a1 a2 a3 a4 a5 ((1 : Nat) : Int) = (pre a0 a1 a2 a3 a4 a5 ((0 : Nat) : Int) && fitB a0) := by
  unfold pre; simp
theorem pre_2 (a0 a1 a2 a3 a4 a5 : Int) : pre a0 a1 a2 a3 a4 a5 ((2 : Nat) : Int) = (pre a0 a1 a2 a3 a4 a5 ((1 : Nat) : Int) && fitB a1) := by
  unfold pre; simp
theorem pre_3 (a0 a1 a2 a3 a4 a5 : Int) : pre a0 a1 a2 a3 a4 a5 ((3 : Nat) : Int) = (pre a0 a1 a2 a3 a4 a5 ((2 : Nat) : Int) && fitB a2) := by
  unfold pre; simp
theorem pre_4 (a0 a1 a2 a3 a4 a5 : Int) : pre a0 a1 a2 a3 a4 a5 ((4 : Nat) : Int) = (pre a0 a1 a2 a3 a4 a5 ((3 : Nat) : Int) && fitB a3) := by
  unfold pre; simp
theorem pre_5 (a0 a1 a2 a3 a4 a5 : Int) : pre a0 a1 a2 a3 a4 a5 ((5 : Nat) : Int) = (pre a0 a1 a2 a3 a4 a5 ((4 : Nat) : Int) && fitB a4) := by
  unfold pre; simp
theorem pre_6 (a0 a1 a2 a3 a4 a5 : Int) : pre a0 a1 a2 a3 a4 a5 ((6 : Nat) : Int) = (pre a0 a1 a2 a3 a4 a5 ((5 : Nat) : Int) && fitB a5) := by
  unfold pre; simp
theorem pre_all {a0 a1 a2 a3 a4 a5 : Int} (h : pre a0 a1 a2 a3 a4 a5 ((6 : Nat) : Int) = true) : fitB a0 = true ∧ fitB a1 = true ∧ fitB a2 = true ∧ fitB a3 = true ∧ fitB a4 = true ∧ fitB a5 = true := by
  unfold pre at h; simpa [Bool.and_eq_true, and_assoc] using h
theorem new6 {T : TypeId} {b : Nat} {v0 v1 v2 v3 v4 v5 : Int} (W : World) (h : b = W.heap.size) :
    Has (W.alloc (.cells #[.int .i64 v0, .int .i64 v1, .int .i64 v2, .int .i64 v3, .int .i64 v4, .int .i64 v5] T)) b (mC v0 v1 v2 v3 v4 v5) T := Has.new W _ T h
theorem six {W : World} {T : TypeId} {b : Nat} {v0 v1 v2 v3 v4 v5 : Int} (h : Has W b (mC 0 0 0 0 0 0) T) :
    Has ((((((W.setCell ⟨b, 0, none⟩ (.int .i64 v0)).setCell ⟨b, 1, none⟩ (.int .i64 v1)).setCell ⟨b, 2, none⟩ (.int .i64 v2)).setCell ⟨b, 3, none⟩ (.int .i64 v3)).setCell ⟨b, 4, none⟩ (.int .i64 v4)).setCell ⟨b, 5, none⟩ (.int .i64 v5)) b (mC v0 v1 v2 v3 v4 v5) T :=
  Has.set (Has.set (Has.set (Has.set (Has.set (Has.set h 0 _) 1 _) 2 _) 3 _) 4 _) 5 _

set_option maxHeartbeats 12800000 in
set_option maxRecDepth 100000 in
theorem walk (a0 a1 a2 a3 a4 a5 b0 b1 b2 b3 b4 b5 : Int) (w : World) : Calls Try.prog 5 #[mV a0 a1 a2 a3 a4 a5, mV b0 b1 b2 b3 b4 b5] w fun e w' => e = .returned (.bool true) ∧ Below w.heap.size w w' := by
  go_enter Try.func5, Try.ntmps5
  go_wp2_with fail
  refine (cConcat _ _ _ _ _ _ _ _ _ _ _ _ _ ).mono ?_
  rintro e w1 ⟨rfl, hB1⟩
  obtain ⟨u, hu⟩ : ∃ u, concatR deltaA applyA a0 a1 a2 a3 a4 a5 b0 b1 b2 b3 b4 b5 = u := ⟨_, rfl⟩
  rw [hu]
  have Hu := Aside0.mk hu
  clear hu
  have hG1 : Below w.heap.size w w1 := below_step (by repeat (first | exact Below.refl _ _ | apply below_alloc | apply pw_below_drewN | apply below_drew1)) hB1
  have hH1 := hG1.size
  have hA1 : Has w1 (w.heap.size) (mC a0 a1 a2 a3 a4 a5) 22 := Has.below (by repeat (first | exact Has.new _ _ _ (by simp) | apply Has.alloc)) hB1
  have hC1 : Has w1 (w.heap.size + 1) (mC b0 b1 b2 b3 b4 b5) 22 := Has.below (by repeat (first | exact Has.new _ _ _ (by simp) | apply Has.alloc)) hB1
  clear hB1 
  have chA0 : w1.cell? ⟨w.heap.size, 0, none⟩ = some (.int .i64 a0) := hA1.cell 0
  have chA1 : w1.cell? ⟨w.heap.size, 1, none⟩ = some (.int .i64 a1) := hA1.cell 1
  have chA2 : w1.cell? ⟨w.heap.size, 2, none⟩ = some (.int .i64 a2) := hA1.cell 2
  have chA3 : w1.cell? ⟨w.heap.size, 3, none⟩ = some (.int .i64 a3) := hA1.cell 3
  have chA4 : w1.cell? ⟨w.heap.size, 4, none⟩ = some (.int .i64 a4) := hA1.cell 4
  have chA5 : w1.cell? ⟨w.heap.size, 5, none⟩ = some (.int .i64 a5) := hA1.cell 5
  have lhA := hA1.lt
  have chC0 : w1.cell? ⟨w.heap.size + 1, 0, none⟩ = some (.int .i64 b0) := hC1.cell 0
  have chC1 : w1.cell? ⟨w.heap.size + 1, 1, none⟩ = some (.int .i64 b1) := hC1.cell 1
  have chC2 : w1.cell? ⟨w.heap.size + 1, 2, none⟩ = some (.int .i64 b2) := hC1.cell 2
  have chC3 : w1.cell? ⟨w.heap.size + 1, 3, none⟩ = some (.int .i64 b3) := hC1.cell 3
  have chC4 : w1.cell? ⟨w.heap.size + 1, 4, none⟩ = some (.int .i64 b4) := hC1.cell 4
  have chC5 : w1.cell? ⟨w.heap.size + 1, 5, none⟩ = some (.int .i64 b5) := hC1.cell 5
  have lhC := hC1.lt
  go_wp2_with fail
  refine (rConcat _ _ _ _ _ _ _ _ _ _ _ _ _ ).mono ?_
  rintro e w2 ⟨rfl, hB2⟩
  obtain ⟨v, hv⟩ : ∃ u, concatR deltaB applyB a0 a1 a2 a3 a4 a5 b0 b1 b2 b3 b4 b5 = u := ⟨_, rfl⟩
  rw [hv]
  have Hv := Aside0.mk hv
  clear hv
  have hG2 : Below w.heap.size w w2 := below_step (by repeat (first | (with_reducible exact hG1) | apply below_alloc)) hB2
  have hH2 := hG2.size
  have hA2 : Has w2 (w.heap.size) (mC a0 a1 a2 a3 a4 a5) 22 := Has.below (by repeat (first | (with_reducible exact hA1) | apply Has.alloc)) hB2
  have hC2 : Has w2 (w.heap.size + 1) (mC b0 b1 b2 b3 b4 b5) 22 := Has.below (by repeat (first | (with_reducible exact hC1) | apply Has.alloc)) hB2
  have hUu2 : Has w2 (w1.heap.size) (mC u.a u.b u.c u.d u.e u.f) 22 := Has.below (Has.new _ _ _ rfl) hB2
  clear hB2 hG1 hA1 hC1
  clear chA0 chA1 chA2 chA3 chA4 chA5 chC0 chC1 chC2 chC3 chC4 chC5 lhA lhC
  have chA0 : w2.cell? ⟨w.heap.size, 0, none⟩ = some (.int .i64 a0) := hA2.cell 0
  have chA1 : w2.cell? ⟨w.heap.size, 1, none⟩ = some (.int .i64 a1) := hA2.cell 1
  have chA2 : w2.cell? ⟨w.heap.size, 2, none⟩ = some (.int .i64 a2) := hA2.cell 2
  have chA3 : w2.cell? ⟨w.heap.size, 3, none⟩ = some (.int .i64 a3) := hA2.cell 3
  have chA4 : w2.cell? ⟨w.heap.size, 4, none⟩ = some (.int .i64 a4) := hA2.cell 4
  have chA5 : w2.cell? ⟨w.heap.size, 5, none⟩ = some (.int .i64 a5) := hA2.cell 5
  have lhA := hA2.lt
  have chC0 : w2.cell? ⟨w.heap.size + 1, 0, none⟩ = some (.int .i64 b0) := hC2.cell 0
  have chC1 : w2.cell? ⟨w.heap.size + 1, 1, none⟩ = some (.int .i64 b1) := hC2.cell 1
  have chC2 : w2.cell? ⟨w.heap.size + 1, 2, none⟩ = some (.int .i64 b2) := hC2.cell 2
  have chC3 : w2.cell? ⟨w.heap.size + 1, 3, none⟩ = some (.int .i64 b3) := hC2.cell 3
  have chC4 : w2.cell? ⟨w.heap.size + 1, 4, none⟩ = some (.int .i64 b4) := hC2.cell 4
  have chC5 : w2.cell? ⟨w.heap.size + 1, 5, none⟩ = some (.int .i64 b5) := hC2.cell 5
  have lhC := hC2.lt
  have chUu0 : w2.cell? ⟨w1.heap.size, 0, none⟩ = some (.int .i64 u.a) := hUu2.cell 0
  have chUu1 : w2.cell? ⟨w1.heap.size, 1, none⟩ = some (.int .i64 u.b) := hUu2.cell 1
  have chUu2 : w2.cell? ⟨w1.heap.size, 2, none⟩ = some (.int .i64 u.c) := hUu2.cell 2
  have chUu3 : w2.cell? ⟨w1.heap.size, 3, none⟩ = some (.int .i64 u.d) := hUu2.cell 3
  have chUu4 : w2.cell? ⟨w1.heap.size, 4, none⟩ = some (.int .i64 u.e) := hUu2.cell 4
  have chUu5 : w2.cell? ⟨w1.heap.size, 5, none⟩ = some (.int .i64 u.f) := hUu2.cell 5
  have lhUu := hUu2.lt
  have hvu : v = u := by rw [← Hv.out, ← Hu.out, concat_same]
  subst hvu
  clear Hu Hv
  go_upto_region 3 with fail
  have hN := Has.new w2 (mC v.a v.b v.c v.d v.e v.f) 22 rfl
  have kA := hA2.alloc (.cells (mC v.a v.b v.c v.d v.e v.f) 22)
  have kM := hUu2.alloc (.cells (mC v.a v.b v.c v.d v.e v.f) 22)
  have hg := below_alloc hG2 (.cells (mC v.a v.b v.c v.d v.e v.f) 22)
  generalize hW2 : w2.alloc (.cells (mC v.a v.b v.c v.d v.e v.f) 22) = W2 at *
  have HA := Aside0.mk kA
  have HM := Aside0.mk kM
  have HN := Aside0.mk hN
  have HG := Aside0.mk hg
  have gz := HG.out.size
  clear kA kM hN hg hA2 hC2 hUu2 hG2 hH1 hH2 hW2 chA0 chA1 chA2 chA3 chA4 chA5 chC0 chC1 chC2 chC3 chC4 chC5 chUu0 chUu1 chUu2 chUu3 chUu4 chUu5 lhA lhC lhUu
  obtain ⟨x, hx⟩ : ∃ x, concatR deltaA applyA a0 a1 a2 a3 a4 a5 65536 0 0 65536 0 0 = x := ⟨_, rfl⟩
  obtain ⟨y, hy⟩ : ∃ y, concatR deltaA applyA 65536 0 0 65536 0 0 a0 a1 a2 a3 a4 a5 = y := ⟨_, rfl⟩
  have HX1 := Aside0.mk hx
  have HY1 := Aside0.mk hy
  clear hx hy
  have lHA := HA.out.lt
  have nHAa : W2.heap.size ≠ w.heap.size := by omega
  have nHAb : W2.heap.size + 1 ≠ w.heap.size := by omega
  have nHAc : W2.heap.size + 1 + 1 ≠ w.heap.size := by omega
  have lHM := HM.out.lt
  have nHMa : W2.heap.size ≠ w1.heap.size := by omega
  have nHMb : W2.heap.size + 1 ≠ w1.heap.size := by omega
  have nHMc : W2.heap.size + 1 + 1 ≠ w1.heap.size := by omega
  have lHN := HN.out.lt
  have nHNa : W2.heap.size ≠ w2.heap.size := by omega
  have nHNb : W2.heap.size + 1 ≠ w2.heap.size := by omega
  have nHNc : W2.heap.size + 1 + 1 ≠ w2.heap.size := by omega
  have c0 : W2.cell? ⟨w.heap.size, 0, none⟩ = some (.int .i64 a0) := HA.out.cell 0
  have c1 : W2.cell? ⟨w.heap.size, 1, none⟩ = some (.int .i64 a1) := HA.out.cell 1
  have c2 : W2.cell? ⟨w.heap.size, 2, none⟩ = some (.int .i64 a2) := HA.out.cell 2
  have c3 : W2.cell? ⟨w.heap.size, 3, none⟩ = some (.int .i64 a3) := HA.out.cell 3
  have c4 : W2.cell? ⟨w.heap.size, 4, none⟩ = some (.int .i64 a4) := HA.out.cell 4
  have c5 : W2.cell? ⟨w.heap.size, 5, none⟩ = some (.int .i64 a5) := HA.out.cell 5
  go_cut [9, 10] (fun s9 s10 wc => ∃ b : Nat, s9 = .pointer (some ⟨b, 0, none⟩) ∧ s10 = .int .i64 x.s ∧ Aside0 (Has wc b (mC x.a x.b x.c x.d x.e x.f) 22 ∧ Has wc w.heap.size (mC a0 a1 a2 a3 a4 a5) 22 ∧ Has wc w1.heap.size (mC v.a v.b v.c v.d v.e v.f) 22 ∧ Has wc w2.heap.size (mC v.a v.b v.c v.d v.e v.f) 22 ∧ Below w.heap.size w wc))
  case first =>
    go_region_held3 (fun w' => w'.cell? ⟨w.heap.size, 0, none⟩ = some (.int .i64 a0) ∧ w'.cell? ⟨w.heap.size, 1, none⟩ = some (.int .i64 a1) ∧ w'.cell? ⟨w.heap.size, 2, none⟩ = some (.int .i64 a2) ∧ w'.cell? ⟨w.heap.size, 3, none⟩ = some (.int .i64 a3) ∧ w'.cell? ⟨w.heap.size, 4, none⟩ = some (.int .i64 a4) ∧ w'.cell? ⟨w.heap.size, 5, none⟩ = some (.int .i64 a5)) (first | (with_reducible exact ⟨d0, d1, d2, d3, d4, d5⟩) | (with_reducible exact ⟨c0, c1, c2, c3, c4, c5⟩) | go_keep)
      (first | (go_at_call 18; ((with_reducible refine (cIdentityX _).mono ?_); rintro e w1 ⟨rfl, rfl⟩)) | (go_at_call 16; ((with_reducible refine (cConcat _ _ _ _ _ _ _ _ _ _ _ _ _ ).mono ?_); rintro e w1 ⟨rfl, hb1⟩; rw [HX1.out]; have d0 : w1.cell? ⟨w.heap.size, 0, none⟩ = some (.int .i64 a0) := (Has.below (by repeat (first | (with_reducible exact HA.out) | (with_reducible first | apply Has.alloc | apply Has.drewN | apply Has.drew))) hb1).cell 0; have d1 : w1.cell? ⟨w.heap.size, 1, none⟩ = some (.int .i64 a1) := (Has.below (by repeat (first | (with_reducible exact HA.out) | (with_reducible first | apply Has.alloc | apply Has.drewN | apply Has.drew))) hb1).cell 1; have d2 : w1.cell? ⟨w.heap.size, 2, none⟩ = some (.int .i64 a2) := (Has.below (by repeat (first | (with_reducible exact HA.out) | (with_reducible first | apply Has.alloc | apply Has.drewN | apply Has.drew))) hb1).cell 2; have d3 : w1.cell? ⟨w.heap.size, 3, none⟩ = some (.int .i64 a3) := (Has.below (by repeat (first | (with_reducible exact HA.out) | (with_reducible first | apply Has.alloc | apply Has.drewN | apply Has.drew))) hb1).cell 3; have d4 : w1.cell? ⟨w.heap.size, 4, none⟩ = some (.int .i64 a4) := (Has.below (by repeat (first | (with_reducible exact HA.out) | (with_reducible first | apply Has.alloc | apply Has.drewN | apply Has.drew))) hb1).cell 4; have d5 : w1.cell? ⟨w.heap.size, 5, none⟩ = some (.int .i64 a5) := (Has.below (by repeat (first | (with_reducible exact HA.out) | (with_reducible first | apply Has.alloc | apply Has.drewN | apply Has.drew))) hb1).cell 5; have ay0 : W2.heap.size < _ → w1.cell? ⟨W2.heap.size, 0, none⟩ = _ := fun h => hb1.cell (p := ⟨W2.heap.size, 0, none⟩) h; have fy0 : W2.heap.size < _ → w1.frozen? ⟨W2.heap.size, 0, none⟩ = _ := fun h => hb1.frozen (p := ⟨W2.heap.size, 0, none⟩) h; have ay1 : W2.heap.size < _ → w1.cell? ⟨W2.heap.size, 1, none⟩ = _ := fun h => hb1.cell (p := ⟨W2.heap.size, 1, none⟩) h; have fy1 : W2.heap.size < _ → w1.frozen? ⟨W2.heap.size, 1, none⟩ = _ := fun h => hb1.frozen (p := ⟨W2.heap.size, 1, none⟩) h; have ay2 : W2.heap.size < _ → w1.cell? ⟨W2.heap.size, 2, none⟩ = _ := fun h => hb1.cell (p := ⟨W2.heap.size, 2, none⟩) h; have fy2 : W2.heap.size < _ → w1.frozen? ⟨W2.heap.size, 2, none⟩ = _ := fun h => hb1.frozen (p := ⟨W2.heap.size, 2, none⟩) h; have ay3 : W2.heap.size < _ → w1.cell? ⟨W2.heap.size, 3, none⟩ = _ := fun h => hb1.cell (p := ⟨W2.heap.size, 3, none⟩) h; have fy3 : W2.heap.size < _ → w1.frozen? ⟨W2.heap.size, 3, none⟩ = _ := fun h => hb1.frozen (p := ⟨W2.heap.size, 3, none⟩) h; have ay4 : W2.heap.size < _ → w1.cell? ⟨W2.heap.size, 4, none⟩ = _ := fun h => hb1.cell (p := ⟨W2.heap.size, 4, none⟩) h; have fy4 : W2.heap.size < _ → w1.frozen? ⟨W2.heap.size, 4, none⟩ = _ := fun h => hb1.frozen (p := ⟨W2.heap.size, 4, none⟩) h; have ay5 : W2.heap.size < _ → w1.cell? ⟨W2.heap.size, 5, none⟩ = _ := fun h => hb1.cell (p := ⟨W2.heap.size, 5, none⟩) h; have fy5 : W2.heap.size < _ → w1.frozen? ⟨W2.heap.size, 5, none⟩ = _ := fun h => hb1.frozen (p := ⟨W2.heap.size, 5, none⟩) h; have ax0 : W2.heap.size + 1 < _ → w1.cell? ⟨W2.heap.size + 1, 0, none⟩ = _ := fun h => hb1.cell (p := ⟨W2.heap.size + 1, 0, none⟩) h; have fx0 : W2.heap.size + 1 < _ → w1.frozen? ⟨W2.heap.size + 1, 0, none⟩ = _ := fun h => hb1.frozen (p := ⟨W2.heap.size + 1, 0, none⟩) h; have ax1 : W2.heap.size + 1 < _ → w1.cell? ⟨W2.heap.size + 1, 1, none⟩ = _ := fun h => hb1.cell (p := ⟨W2.heap.size + 1, 1, none⟩) h; have fx1 : W2.heap.size + 1 < _ → w1.frozen? ⟨W2.heap.size + 1, 1, none⟩ = _ := fun h => hb1.frozen (p := ⟨W2.heap.size + 1, 1, none⟩) h; have ax2 : W2.heap.size + 1 < _ → w1.cell? ⟨W2.heap.size + 1, 2, none⟩ = _ := fun h => hb1.cell (p := ⟨W2.heap.size + 1, 2, none⟩) h; have fx2 : W2.heap.size + 1 < _ → w1.frozen? ⟨W2.heap.size + 1, 2, none⟩ = _ := fun h => hb1.frozen (p := ⟨W2.heap.size + 1, 2, none⟩) h; have ax3 : W2.heap.size + 1 < _ → w1.cell? ⟨W2.heap.size + 1, 3, none⟩ = _ := fun h => hb1.cell (p := ⟨W2.heap.size + 1, 3, none⟩) h; have fx3 : W2.heap.size + 1 < _ → w1.frozen? ⟨W2.heap.size + 1, 3, none⟩ = _ := fun h => hb1.frozen (p := ⟨W2.heap.size + 1, 3, none⟩) h; have ax4 : W2.heap.size + 1 < _ → w1.cell? ⟨W2.heap.size + 1, 4, none⟩ = _ := fun h => hb1.cell (p := ⟨W2.heap.size + 1, 4, none⟩) h; have fx4 : W2.heap.size + 1 < _ → w1.frozen? ⟨W2.heap.size + 1, 4, none⟩ = _ := fun h => hb1.frozen (p := ⟨W2.heap.size + 1, 4, none⟩) h; have ax5 : W2.heap.size + 1 < _ → w1.cell? ⟨W2.heap.size + 1, 5, none⟩ = _ := fun h => hb1.cell (p := ⟨W2.heap.size + 1, 5, none⟩) h; have fx5 : W2.heap.size + 1 < _ → w1.frozen? ⟨W2.heap.size + 1, 5, none⟩ = _ := fun h => hb1.frozen (p := ⟨W2.heap.size + 1, 5, none⟩) h;  have hL := hb1.size; simp at hL; have nv : w1.heap.size ≠ w.heap.size := by omega)))
    all_goals
      go_wp2_with fail
      go_meet
      refine ⟨_, rfl, rfl, ⟨?_, ?_, ?_, ?_,  ?_⟩⟩
      · first | (with_reducible exact new6 _ rfl) | (with_reducible refine six (Has.below (cs := mC 0 0 0 0 0 0) ?_ hb1); (repeat (first | (with_reducible refine new6 _ (by simp; done)) | (with_reducible first | apply Has.alloc | apply Has.drewN | apply Has.drew))); done)
      · repeat (first | (with_reducible first | apply Has.alloc | apply Has.drewN | apply Has.drew) | (with_reducible refine Has.far ?_ (by simp; omega) _))
        with_reducible refine Has.below ?_ hb1
        repeat (with_reducible first | exact HA.out | apply Has.alloc | apply Has.drewN | apply Has.drew)
      · repeat (first | (with_reducible first | apply Has.alloc | apply Has.drewN | apply Has.drew) | (with_reducible refine Has.far ?_ (by simp; omega) _))
        with_reducible refine Has.below ?_ hb1
        repeat (with_reducible first | exact HM.out | apply Has.alloc | apply Has.drewN | apply Has.drew)
      · repeat (first | (with_reducible first | apply Has.alloc | apply Has.drewN | apply Has.drew) | (with_reducible refine Has.far ?_ (by simp; omega) _))
        with_reducible refine Has.below ?_ hb1
        repeat (with_reducible first | exact HN.out | apply Has.alloc | apply Has.drewN | apply Has.drew)
      · repeat (first | (with_reducible first | apply below_alloc | apply pw_below_drewN | apply below_drew1) | (with_reducible refine below_set ?_ (by omega)))
        with_reducible refine below_step ?_ hb1
        repeat (with_reducible first | exact HG.out | apply below_alloc | apply pw_below_drewN | apply below_drew1)
  case rest =>
    obtain ⟨bX, rfl, rfl, HX⟩ := hcut
    obtain ⟨hX, kHA, kHM, kHN, hg⟩ := HX.out
    clear HX HG HA lHA nHAa nHAb nHAc HM lHM nHMa nHMb nHMc HN lHN nHNa nHNb nHNc c0 c1 c2 c3 c4 c5
    obtain ⟨W3, rfl⟩ : ∃ W0, W0 = wc := ⟨_, rfl⟩
    have HA := Aside0.mk kHA
    have HM := Aside0.mk kHM
    have HN := Aside0.mk kHN
    have HX := Aside0.mk hX
    have HG := Aside0.mk hg
    have gz := HG.out.size
    clear hX hg kHA kHM kHN
    go_upto_region 4 with fail
    have lHA := HA.out.lt
    have nHAa : W3.heap.size ≠ w.heap.size := by omega
    have nHAb : W3.heap.size + 1 ≠ w.heap.size := by omega
    have nHAc : W3.heap.size + 1 + 1 ≠ w.heap.size := by omega
    have lHM := HM.out.lt
    have nHMa : W3.heap.size ≠ w1.heap.size := by omega
    have nHMb : W3.heap.size + 1 ≠ w1.heap.size := by omega
    have nHMc : W3.heap.size + 1 + 1 ≠ w1.heap.size := by omega
    have lHN := HN.out.lt
    have nHNa : W3.heap.size ≠ w2.heap.size := by omega
    have nHNb : W3.heap.size + 1 ≠ w2.heap.size := by omega
    have nHNc : W3.heap.size + 1 + 1 ≠ w2.heap.size := by omega
    have lHX := HX.out.lt
    have nHXa : W3.heap.size ≠ bX := by omega
    have nHXb : W3.heap.size + 1 ≠ bX := by omega
    have nHXc : W3.heap.size + 1 + 1 ≠ bX := by omega
    have c0 : W3.cell? ⟨w.heap.size, 0, none⟩ = some (.int .i64 a0) := HA.out.cell 0
    have c1 : W3.cell? ⟨w.heap.size, 1, none⟩ = some (.int .i64 a1) := HA.out.cell 1
    have c2 : W3.cell? ⟨w.heap.size, 2, none⟩ = some (.int .i64 a2) := HA.out.cell 2
    have c3 : W3.cell? ⟨w.heap.size, 3, none⟩ = some (.int .i64 a3) := HA.out.cell 3
    have c4 : W3.cell? ⟨w.heap.size, 4, none⟩ = some (.int .i64 a4) := HA.out.cell 4
    have c5 : W3.cell? ⟨w.heap.size, 5, none⟩ = some (.int .i64 a5) := HA.out.cell 5
    go_cut [11, 12] (fun s11 s12 wc => ∃ b : Nat, s11 = .pointer (some ⟨b, 0, none⟩) ∧ s12 = .int .i64 y.s ∧ Aside0 (Has wc b (mC y.a y.b y.c y.d y.e y.f) 22 ∧ Has wc w.heap.size (mC a0 a1 a2 a3 a4 a5) 22 ∧ Has wc w1.heap.size (mC v.a v.b v.c v.d v.e v.f) 22 ∧ Has wc w2.heap.size (mC v.a v.b v.c v.d v.e v.f) 22 ∧ Has wc bX (mC x.a x.b x.c x.d x.e x.f) 22 ∧ Below w.heap.size w wc))
    case first =>
      go_region_held3 (fun w' => w'.cell? ⟨w.heap.size, 0, none⟩ = some (.int .i64 a0) ∧ w'.cell? ⟨w.heap.size, 1, none⟩ = some (.int .i64 a1) ∧ w'.cell? ⟨w.heap.size, 2, none⟩ = some (.int .i64 a2) ∧ w'.cell? ⟨w.heap.size, 3, none⟩ = some (.int .i64 a3) ∧ w'.cell? ⟨w.heap.size, 4, none⟩ = some (.int .i64 a4) ∧ w'.cell? ⟨w.heap.size, 5, none⟩ = some (.int .i64 a5)) (first | (with_reducible exact ⟨d0, d1, d2, d3, d4, d5⟩) | (with_reducible exact ⟨c0, c1, c2, c3, c4, c5⟩) | go_keep)
        (first | (go_at_call 18; ((with_reducible refine (cIdentityX _).mono ?_); rintro e w1 ⟨rfl, rfl⟩)) | (go_at_call 16; ((with_reducible refine (cConcat _ _ _ _ _ _ _ _ _ _ _ _ _ ).mono ?_); rintro e w1 ⟨rfl, hb1⟩; rw [HY1.out]; have d0 : w1.cell? ⟨w.heap.size, 0, none⟩ = some (.int .i64 a0) := (Has.below (by repeat (first | (with_reducible exact HA.out) | (with_reducible first | apply Has.alloc | apply Has.drewN | apply Has.drew))) hb1).cell 0; have d1 : w1.cell? ⟨w.heap.size, 1, none⟩ = some (.int .i64 a1) := (Has.below (by repeat (first | (with_reducible exact HA.out) | (with_reducible first | apply Has.alloc | apply Has.drewN | apply Has.drew))) hb1).cell 1; have d2 : w1.cell? ⟨w.heap.size, 2, none⟩ = some (.int .i64 a2) := (Has.below (by repeat (first | (with_reducible exact HA.out) | (with_reducible first | apply Has.alloc | apply Has.drewN | apply Has.drew))) hb1).cell 2; have d3 : w1.cell? ⟨w.heap.size, 3, none⟩ = some (.int .i64 a3) := (Has.below (by repeat (first | (with_reducible exact HA.out) | (with_reducible first | apply Has.alloc | apply Has.drewN | apply Has.drew))) hb1).cell 3; have d4 : w1.cell? ⟨w.heap.size, 4, none⟩ = some (.int .i64 a4) := (Has.below (by repeat (first | (with_reducible exact HA.out) | (with_reducible first | apply Has.alloc | apply Has.drewN | apply Has.drew))) hb1).cell 4; have d5 : w1.cell? ⟨w.heap.size, 5, none⟩ = some (.int .i64 a5) := (Has.below (by repeat (first | (with_reducible exact HA.out) | (with_reducible first | apply Has.alloc | apply Has.drewN | apply Has.drew))) hb1).cell 5; have ay0 : W3.heap.size < _ → w1.cell? ⟨W3.heap.size, 0, none⟩ = _ := fun h => hb1.cell (p := ⟨W3.heap.size, 0, none⟩) h; have fy0 : W3.heap.size < _ → w1.frozen? ⟨W3.heap.size, 0, none⟩ = _ := fun h => hb1.frozen (p := ⟨W3.heap.size, 0, none⟩) h; have ay1 : W3.heap.size < _ → w1.cell? ⟨W3.heap.size, 1, none⟩ = _ := fun h => hb1.cell (p := ⟨W3.heap.size, 1, none⟩) h; have fy1 : W3.heap.size < _ → w1.frozen? ⟨W3.heap.size, 1, none⟩ = _ := fun h => hb1.frozen (p := ⟨W3.heap.size, 1, none⟩) h; have ay2 : W3.heap.size < _ → w1.cell? ⟨W3.heap.size, 2, none⟩ = _ := fun h => hb1.cell (p := ⟨W3.heap.size, 2, none⟩) h; have fy2 : W3.heap.size < _ → w1.frozen? ⟨W3.heap.size, 2, none⟩ = _ := fun h => hb1.frozen (p := ⟨W3.heap.size, 2, none⟩) h; have ay3 : W3.heap.size < _ → w1.cell? ⟨W3.heap.size, 3, none⟩ = _ := fun h => hb1.cell (p := ⟨W3.heap.size, 3, none⟩) h; have fy3 : W3.heap.size < _ → w1.frozen? ⟨W3.heap.size, 3, none⟩ = _ := fun h => hb1.frozen (p := ⟨W3.heap.size, 3, none⟩) h; have ay4 : W3.heap.size < _ → w1.cell? ⟨W3.heap.size, 4, none⟩ = _ := fun h => hb1.cell (p := ⟨W3.heap.size, 4, none⟩) h; have fy4 : W3.heap.size < _ → w1.frozen? ⟨W3.heap.size, 4, none⟩ = _ := fun h => hb1.frozen (p := ⟨W3.heap.size, 4, none⟩) h; have ay5 : W3.heap.size < _ → w1.cell? ⟨W3.heap.size, 5, none⟩ = _ := fun h => hb1.cell (p := ⟨W3.heap.size, 5, none⟩) h; have fy5 : W3.heap.size < _ → w1.frozen? ⟨W3.heap.size, 5, none⟩ = _ := fun h => hb1.frozen (p := ⟨W3.heap.size, 5, none⟩) h; have ax0 : W3.heap.size + 1 < _ → w1.cell? ⟨W3.heap.size + 1, 0, none⟩ = _ := fun h => hb1.cell (p := ⟨W3.heap.size + 1, 0, none⟩) h; have fx0 : W3.heap.size + 1 < _ → w1.frozen? ⟨W3.heap.size + 1, 0, none⟩ = _ := fun h => hb1.frozen (p := ⟨W3.heap.size + 1, 0, none⟩) h; have ax1 : W3.heap.size + 1 < _ → w1.cell? ⟨W3.heap.size + 1, 1, none⟩ = _ := fun h => hb1.cell (p := ⟨W3.heap.size + 1, 1, none⟩) h; have fx1 : W3.heap.size + 1 < _ → w1.frozen? ⟨W3.heap.size + 1, 1, none⟩ = _ := fun h => hb1.frozen (p := ⟨W3.heap.size + 1, 1, none⟩) h; have ax2 : W3.heap.size + 1 < _ → w1.cell? ⟨W3.heap.size + 1, 2, none⟩ = _ := fun h => hb1.cell (p := ⟨W3.heap.size + 1, 2, none⟩) h; have fx2 : W3.heap.size + 1 < _ → w1.frozen? ⟨W3.heap.size + 1, 2, none⟩ = _ := fun h => hb1.frozen (p := ⟨W3.heap.size + 1, 2, none⟩) h; have ax3 : W3.heap.size + 1 < _ → w1.cell? ⟨W3.heap.size + 1, 3, none⟩ = _ := fun h => hb1.cell (p := ⟨W3.heap.size + 1, 3, none⟩) h; have fx3 : W3.heap.size + 1 < _ → w1.frozen? ⟨W3.heap.size + 1, 3, none⟩ = _ := fun h => hb1.frozen (p := ⟨W3.heap.size + 1, 3, none⟩) h; have ax4 : W3.heap.size + 1 < _ → w1.cell? ⟨W3.heap.size + 1, 4, none⟩ = _ := fun h => hb1.cell (p := ⟨W3.heap.size + 1, 4, none⟩) h; have fx4 : W3.heap.size + 1 < _ → w1.frozen? ⟨W3.heap.size + 1, 4, none⟩ = _ := fun h => hb1.frozen (p := ⟨W3.heap.size + 1, 4, none⟩) h; have ax5 : W3.heap.size + 1 < _ → w1.cell? ⟨W3.heap.size + 1, 5, none⟩ = _ := fun h => hb1.cell (p := ⟨W3.heap.size + 1, 5, none⟩) h; have fx5 : W3.heap.size + 1 < _ → w1.frozen? ⟨W3.heap.size + 1, 5, none⟩ = _ := fun h => hb1.frozen (p := ⟨W3.heap.size + 1, 5, none⟩) h;  have hL := hb1.size; simp at hL; have nv : w1.heap.size ≠ w.heap.size := by omega)))
      all_goals
        go_wp2_with fail
        go_meet
        refine ⟨_, rfl, rfl, ⟨?_, ?_, ?_, ?_, ?_,  ?_⟩⟩
        · first | (with_reducible exact new6 _ rfl) | (with_reducible refine six (Has.below (cs := mC 0 0 0 0 0 0) ?_ hb1); (repeat (first | (with_reducible refine new6 _ (by simp; done)) | (with_reducible first | apply Has.alloc | apply Has.drewN | apply Has.drew))); done)
        · repeat (first | (with_reducible first | apply Has.alloc | apply Has.drewN | apply Has.drew) | (with_reducible refine Has.far ?_ (by simp; omega) _))
          with_reducible refine Has.below ?_ hb1
          repeat (with_reducible first | exact HA.out | apply Has.alloc | apply Has.drewN | apply Has.drew)
        · repeat (first | (with_reducible first | apply Has.alloc | apply Has.drewN | apply Has.drew) | (with_reducible refine Has.far ?_ (by simp; omega) _))
          with_reducible refine Has.below ?_ hb1
          repeat (with_reducible first | exact HM.out | apply Has.alloc | apply Has.drewN | apply Has.drew)
        · repeat (first | (with_reducible first | apply Has.alloc | apply Has.drewN | apply Has.drew) | (with_reducible refine Has.far ?_ (by simp; omega) _))
          with_reducible refine Has.below ?_ hb1
          repeat (with_reducible first | exact HN.out | apply Has.alloc | apply Has.drewN | apply Has.drew)
        · repeat (first | (with_reducible first | apply Has.alloc | apply Has.drewN | apply Has.drew) | (with_reducible refine Has.far ?_ (by simp; omega) _))
          with_reducible refine Has.below ?_ hb1
          repeat (with_reducible first | exact HX.out | apply Has.alloc | apply Has.drewN | apply Has.drew)
        · repeat (first | (with_reducible first | apply below_alloc | apply pw_below_drewN | apply below_drew1) | (with_reducible refine below_set ?_ (by omega)))
          with_reducible refine below_step ?_ hb1
          repeat (with_reducible first | exact HG.out | apply below_alloc | apply pw_below_drewN | apply below_drew1)
    case rest =>
      obtain ⟨bY, rfl, rfl, HXX⟩ := hcut
      obtain ⟨hY, kHA, kHM, kHN, kHX, hg⟩ := HXX.out
      clear HXX HG HA lHA nHAa nHAb nHAc HM lHM nHMa nHMb nHMc HN lHN nHNa nHNb nHNc HX lHX nHXa nHXb nHXc c0 c1 c2 c3 c4 c5
      obtain ⟨W4, rfl⟩ : ∃ W0, W0 = wc := ⟨_, rfl⟩
      have HA := Aside0.mk kHA
      have HM := Aside0.mk kHM
      have HN := Aside0.mk kHN
      have HX := Aside0.mk kHX
      have HY := Aside0.mk hY
      have HG := Aside0.mk hg
      have gz := HG.out.size
      clear hY hg kHA kHM kHN kHX
      go_wp2_with fail
      go_loopw [13, 14] (fun f i wr => ∃ (k n : Nat), k ≤ 6 ∧ i = .int .i64 (k : Int) ∧ f = .bool (pre a0 a1 a2 a3 a4 a5 k) ∧ wr = W4.drewN n) (fun _ i _ => 6 - (intOf i).toNat)
      case atStart => exact ⟨0, 0, by omega, rfl, by simp [pre], rfl⟩
      case round =>
        obtain ⟨k, n, hk, rfl, rfl, rfl⟩ := hrel
        rcases (show k = 0 ∨ k = 1 ∨ k = 2 ∨ k = 3 ∨ k = 4 ∨ k = 5 ∨ k = 6 from by omega) with rfl | rfl | rfl | rfl | rfl | rfl | rfl
        · have cc : (W4.drewN n).cell? ⟨w.heap.size, 0, none⟩ = some (.int .i64 a0) := (Has.drewN HA.out n).cell 0
          have st := pre_1 a0 a1 a2 a3 a4 a5
          cases hp : pre a0 a1 a2 a3 a4 a5 ((0 : Nat) : Int)
          · go_wp2_with (go_at_call 15; ((with_reducible refine (rFits _ _).mono ?_); rintro e w' ⟨rfl, ⟨nd, rfl⟩⟩))
            go_roundw
            case rel =>
              first
                | exact ⟨1, n, by omega, by first | rfl | simp, by rw [st, hp]; rfl, by simp⟩
                | exact ⟨1, n + nd, by omega, by first | rfl | simp, by rw [st, hp]; rfl, by simp⟩

            case measure => first | (simp [intOf]; done) | (simp [intOf]; omega)
          · go_wp2_with (go_at_call 15; ((with_reducible refine (rFits _ _).mono ?_); rintro e w' ⟨rfl, ⟨nd, rfl⟩⟩))
            go_roundw
            case rel =>
              first
                | exact ⟨1, n, by omega, by first | rfl | simp, by rw [st, hp]; rfl, by simp⟩
                | exact ⟨1, n + nd, by omega, by first | rfl | simp, by rw [st, hp]; rfl, by simp⟩

            case measure => first | (simp [intOf]; done) | (simp [intOf]; omega)
        · have cc : (W4.drewN n).cell? ⟨w.heap.size, 1, none⟩ = some (.int .i64 a1) := (Has.drewN HA.out n).cell 1
          have st := pre_2 a0 a1 a2 a3 a4 a5
          cases hp : pre a0 a1 a2 a3 a4 a5 ((1 : Nat) : Int)
          · go_wp2_with (go_at_call 15; ((with_reducible refine (rFits _ _).mono ?_); rintro e w' ⟨rfl, ⟨nd, rfl⟩⟩))
            go_roundw
            case rel =>
              first
                | exact ⟨2, n, by omega, by first | rfl | simp, by rw [st, hp]; rfl, by simp⟩
                | exact ⟨2, n + nd, by omega, by first | rfl | simp, by rw [st, hp]; rfl, by simp⟩

            case measure => first | (simp [intOf]; done) | (simp [intOf]; omega)
          · go_wp2_with (go_at_call 15; ((with_reducible refine (rFits _ _).mono ?_); rintro e w' ⟨rfl, ⟨nd, rfl⟩⟩))
            go_roundw
            case rel =>
              first
                | exact ⟨2, n, by omega, by first | rfl | simp, by rw [st, hp]; rfl, by simp⟩
                | exact ⟨2, n + nd, by omega, by first | rfl | simp, by rw [st, hp]; rfl, by simp⟩

            case measure => first | (simp [intOf]; done) | (simp [intOf]; omega)
        · have cc : (W4.drewN n).cell? ⟨w.heap.size, 2, none⟩ = some (.int .i64 a2) := (Has.drewN HA.out n).cell 2
          have st := pre_3 a0 a1 a2 a3 a4 a5
          cases hp : pre a0 a1 a2 a3 a4 a5 ((2 : Nat) : Int)
          · go_wp2_with (go_at_call 15; ((with_reducible refine (rFits _ _).mono ?_); rintro e w' ⟨rfl, ⟨nd, rfl⟩⟩))
            go_roundw
            case rel =>
              first
                | exact ⟨3, n, by omega, by first | rfl | simp, by rw [st, hp]; rfl, by simp⟩
                | exact ⟨3, n + nd, by omega, by first | rfl | simp, by rw [st, hp]; rfl, by simp⟩

            case measure => first | (simp [intOf]; done) | (simp [intOf]; omega)
          · go_wp2_with (go_at_call 15; ((with_reducible refine (rFits _ _).mono ?_); rintro e w' ⟨rfl, ⟨nd, rfl⟩⟩))
            go_roundw
            case rel =>
              first
                | exact ⟨3, n, by omega, by first | rfl | simp, by rw [st, hp]; rfl, by simp⟩
                | exact ⟨3, n + nd, by omega, by first | rfl | simp, by rw [st, hp]; rfl, by simp⟩

            case measure => first | (simp [intOf]; done) | (simp [intOf]; omega)
        · have cc : (W4.drewN n).cell? ⟨w.heap.size, 3, none⟩ = some (.int .i64 a3) := (Has.drewN HA.out n).cell 3
          have st := pre_4 a0 a1 a2 a3 a4 a5
          cases hp : pre a0 a1 a2 a3 a4 a5 ((3 : Nat) : Int)
          · go_wp2_with (go_at_call 15; ((with_reducible refine (rFits _ _).mono ?_); rintro e w' ⟨rfl, ⟨nd, rfl⟩⟩))
            go_roundw
            case rel =>
              first
                | exact ⟨4, n, by omega, by first | rfl | simp, by rw [st, hp]; rfl, by simp⟩
                | exact ⟨4, n + nd, by omega, by first | rfl | simp, by rw [st, hp]; rfl, by simp⟩

            case measure => first | (simp [intOf]; done) | (simp [intOf]; omega)
          · go_wp2_with (go_at_call 15; ((with_reducible refine (rFits _ _).mono ?_); rintro e w' ⟨rfl, ⟨nd, rfl⟩⟩))
            go_roundw
            case rel =>
              first
                | exact ⟨4, n, by omega, by first | rfl | simp, by rw [st, hp]; rfl, by simp⟩
                | exact ⟨4, n + nd, by omega, by first | rfl | simp, by rw [st, hp]; rfl, by simp⟩

            case measure => first | (simp [intOf]; done) | (simp [intOf]; omega)
        · have cc : (W4.drewN n).cell? ⟨w.heap.size, 4, none⟩ = some (.int .i64 a4) := (Has.drewN HA.out n).cell 4
          have st := pre_5 a0 a1 a2 a3 a4 a5
          cases hp : pre a0 a1 a2 a3 a4 a5 ((4 : Nat) : Int)
          · go_wp2_with (go_at_call 15; ((with_reducible refine (rFits _ _).mono ?_); rintro e w' ⟨rfl, ⟨nd, rfl⟩⟩))
            go_roundw
            case rel =>
              first
                | exact ⟨5, n, by omega, by first | rfl | simp, by rw [st, hp]; rfl, by simp⟩
                | exact ⟨5, n + nd, by omega, by first | rfl | simp, by rw [st, hp]; rfl, by simp⟩

            case measure => first | (simp [intOf]; done) | (simp [intOf]; omega)
          · go_wp2_with (go_at_call 15; ((with_reducible refine (rFits _ _).mono ?_); rintro e w' ⟨rfl, ⟨nd, rfl⟩⟩))
            go_roundw
            case rel =>
              first
                | exact ⟨5, n, by omega, by first | rfl | simp, by rw [st, hp]; rfl, by simp⟩
                | exact ⟨5, n + nd, by omega, by first | rfl | simp, by rw [st, hp]; rfl, by simp⟩

            case measure => first | (simp [intOf]; done) | (simp [intOf]; omega)
        · have cc : (W4.drewN n).cell? ⟨w.heap.size, 5, none⟩ = some (.int .i64 a5) := (Has.drewN HA.out n).cell 5
          have st := pre_6 a0 a1 a2 a3 a4 a5
          cases hp : pre a0 a1 a2 a3 a4 a5 ((5 : Nat) : Int)
          · go_wp2_with (go_at_call 15; ((with_reducible refine (rFits _ _).mono ?_); rintro e w' ⟨rfl, ⟨nd, rfl⟩⟩))
            go_roundw
            case rel =>
              first
                | exact ⟨6, n, by omega, by first | rfl | simp, by rw [st, hp]; rfl, by simp⟩
                | exact ⟨6, n + nd, by omega, by first | rfl | simp, by rw [st, hp]; rfl, by simp⟩

            case measure => first | (simp [intOf]; done) | (simp [intOf]; omega)
          · go_wp2_with (go_at_call 15; ((with_reducible refine (rFits _ _).mono ?_); rintro e w' ⟨rfl, ⟨nd, rfl⟩⟩))
            go_roundw
            case rel =>
              first
                | exact ⟨6, n, by omega, by first | rfl | simp, by rw [st, hp]; rfl, by simp⟩
                | exact ⟨6, n + nd, by omega, by first | rfl | simp, by rw [st, hp]; rfl, by simp⟩

            case measure => first | (simp [intOf]; done) | (simp [intOf]; omega)
        · obtain ⟨W5, hW5⟩ : ∃ W5, W5 = W4.drewN n := ⟨_, rfl⟩
          have kHA : Has (W4.drewN n) w.heap.size (mC a0 a1 a2 a3 a4 a5) 22 := Has.drewN HA.out n
          have kHM : Has (W4.drewN n) w1.heap.size (mC v.a v.b v.c v.d v.e v.f) 22 := Has.drewN HM.out n
          have kHN : Has (W4.drewN n) w2.heap.size (mC v.a v.b v.c v.d v.e v.f) 22 := Has.drewN HN.out n
          have kHX : Has (W4.drewN n) bX (mC x.a x.b x.c x.d x.e x.f) 22 := Has.drewN HX.out n
          have kHY : Has (W4.drewN n) bY (mC y.a y.b y.c y.d y.e y.f) 22 := Has.drewN HY.out n
          have hg := pw_below_drewN HG.out n
          have q1 := fun w => eqM_self v.a v.b v.c v.d v.e v.f w
          have q2 := fun w => eqM_self a0 a1 a2 a3 a4 a5 w
          clear HA HM HN HX HY HG
          cases hp : pre a0 a1 a2 a3 a4 a5 ((6 : Nat) : Int)
          · go_wp2_with (go_at_call 12; refine (cAnswers _).mono ?_; rintro e W6 ⟨rfl, hb⟩; have mHM := Has.below kHM hb; have nHM := mHM.lt; have cHM0 : W6.cell? ⟨w1.heap.size, 0, none⟩ = some (.int .i64 v.a) := mHM.cell 0; have cHM1 : W6.cell? ⟨w1.heap.size, 1, none⟩ = some (.int .i64 v.b) := mHM.cell 1; have cHM2 : W6.cell? ⟨w1.heap.size, 2, none⟩ = some (.int .i64 v.c) := mHM.cell 2; have cHM3 : W6.cell? ⟨w1.heap.size, 3, none⟩ = some (.int .i64 v.d) := mHM.cell 3; have cHM4 : W6.cell? ⟨w1.heap.size, 4, none⟩ = some (.int .i64 v.e) := mHM.cell 4; have cHM5 : W6.cell? ⟨w1.heap.size, 5, none⟩ = some (.int .i64 v.f) := mHM.cell 5; have mHN := Has.below kHN hb; have nHN := mHN.lt; have cHN0 : W6.cell? ⟨w2.heap.size, 0, none⟩ = some (.int .i64 v.a) := mHN.cell 0; have cHN1 : W6.cell? ⟨w2.heap.size, 1, none⟩ = some (.int .i64 v.b) := mHN.cell 1; have cHN2 : W6.cell? ⟨w2.heap.size, 2, none⟩ = some (.int .i64 v.c) := mHN.cell 2; have cHN3 : W6.cell? ⟨w2.heap.size, 3, none⟩ = some (.int .i64 v.d) := mHN.cell 3; have cHN4 : W6.cell? ⟨w2.heap.size, 4, none⟩ = some (.int .i64 v.e) := mHN.cell 4; have cHN5 : W6.cell? ⟨w2.heap.size, 5, none⟩ = some (.int .i64 v.f) := mHN.cell 5; have hg6 := below_step hg hb; skip)
            go_ret
            exact ⟨rfl, by repeat (first | (with_reducible first | exact hg6 | apply below_alloc | apply pw_below_drewN | apply below_drew1))⟩
          · obtain ⟨f0, f1, f2, f3, f4, f5⟩ := pre_all hp
            have ex := HX1.out.symm.trans (concat_id f0 f1 f2 f3 f4 f5)
            have ey := HY1.out.symm.trans (id_concat f0 f1 f2 f3 f4 f5)
            clear HX1 HY1
            subst ex
            subst ey
            go_wp2_with (go_at_call 12; refine (cAnswers _).mono ?_; rintro e W6 ⟨rfl, hb⟩; have mHA := Has.below kHA hb; have nHA := mHA.lt; have cHA0 : W6.cell? ⟨w.heap.size, 0, none⟩ = some (.int .i64 a0) := mHA.cell 0; have cHA1 : W6.cell? ⟨w.heap.size, 1, none⟩ = some (.int .i64 a1) := mHA.cell 1; have cHA2 : W6.cell? ⟨w.heap.size, 2, none⟩ = some (.int .i64 a2) := mHA.cell 2; have cHA3 : W6.cell? ⟨w.heap.size, 3, none⟩ = some (.int .i64 a3) := mHA.cell 3; have cHA4 : W6.cell? ⟨w.heap.size, 4, none⟩ = some (.int .i64 a4) := mHA.cell 4; have cHA5 : W6.cell? ⟨w.heap.size, 5, none⟩ = some (.int .i64 a5) := mHA.cell 5; have mHM := Has.below kHM hb; have nHM := mHM.lt; have cHM0 : W6.cell? ⟨w1.heap.size, 0, none⟩ = some (.int .i64 v.a) := mHM.cell 0; have cHM1 : W6.cell? ⟨w1.heap.size, 1, none⟩ = some (.int .i64 v.b) := mHM.cell 1; have cHM2 : W6.cell? ⟨w1.heap.size, 2, none⟩ = some (.int .i64 v.c) := mHM.cell 2; have cHM3 : W6.cell? ⟨w1.heap.size, 3, none⟩ = some (.int .i64 v.d) := mHM.cell 3; have cHM4 : W6.cell? ⟨w1.heap.size, 4, none⟩ = some (.int .i64 v.e) := mHM.cell 4; have cHM5 : W6.cell? ⟨w1.heap.size, 5, none⟩ = some (.int .i64 v.f) := mHM.cell 5; have mHN := Has.below kHN hb; have nHN := mHN.lt; have cHN0 : W6.cell? ⟨w2.heap.size, 0, none⟩ = some (.int .i64 v.a) := mHN.cell 0; have cHN1 : W6.cell? ⟨w2.heap.size, 1, none⟩ = some (.int .i64 v.b) := mHN.cell 1; have cHN2 : W6.cell? ⟨w2.heap.size, 2, none⟩ = some (.int .i64 v.c) := mHN.cell 2; have cHN3 : W6.cell? ⟨w2.heap.size, 3, none⟩ = some (.int .i64 v.d) := mHN.cell 3; have cHN4 : W6.cell? ⟨w2.heap.size, 4, none⟩ = some (.int .i64 v.e) := mHN.cell 4; have cHN5 : W6.cell? ⟨w2.heap.size, 5, none⟩ = some (.int .i64 v.f) := mHN.cell 5; have mHX := Has.below kHX hb; have nHX := mHX.lt; have cHX0 : W6.cell? ⟨bX, 0, none⟩ = some (.int .i64 a0) := mHX.cell 0; have cHX1 : W6.cell? ⟨bX, 1, none⟩ = some (.int .i64 a1) := mHX.cell 1; have cHX2 : W6.cell? ⟨bX, 2, none⟩ = some (.int .i64 a2) := mHX.cell 2; have cHX3 : W6.cell? ⟨bX, 3, none⟩ = some (.int .i64 a3) := mHX.cell 3; have cHX4 : W6.cell? ⟨bX, 4, none⟩ = some (.int .i64 a4) := mHX.cell 4; have cHX5 : W6.cell? ⟨bX, 5, none⟩ = some (.int .i64 a5) := mHX.cell 5; have mHY := Has.below kHY hb; have nHY := mHY.lt; have cHY0 : W6.cell? ⟨bY, 0, none⟩ = some (.int .i64 a0) := mHY.cell 0; have cHY1 : W6.cell? ⟨bY, 1, none⟩ = some (.int .i64 a1) := mHY.cell 1; have cHY2 : W6.cell? ⟨bY, 2, none⟩ = some (.int .i64 a2) := mHY.cell 2; have cHY3 : W6.cell? ⟨bY, 3, none⟩ = some (.int .i64 a3) := mHY.cell 3; have cHY4 : W6.cell? ⟨bY, 4, none⟩ = some (.int .i64 a4) := mHY.cell 4; have cHY5 : W6.cell? ⟨bY, 5, none⟩ = some (.int .i64 a5) := mHY.cell 5; have hg6 := below_step hg hb; skip)
            go_ret
            exact ⟨rfl, by repeat (first | (with_reducible first | exact hg6 | apply below_alloc | apply pw_below_drewN | apply below_drew1))⟩
end Go.Proofs.Ytkggogbgnphmpaa.Joins
