/- The walks of the program's functions on matrices: each leads, or makes, what the plain text says. -/
import Derived.Test.YtkggogbgnphmpaaDoorBase
import Derived.Deep.RegionHeld3
import Derived.Laws.ResultCell
namespace Go.Proofs.YtkggogbgnphmpaaDoor.MatA
open Go.RowKit Go.Proofs.YtkggogbgnphmpaaDoorW.PrintWords Go.Proofs.YtkggogbgnphmpaaDoorW.PrintLast Go.Proofs.YtkggogbgnphmpaaDoorW.PrintMore
open Go.Proofs.YtkggogbgnphmpaaDoor.Sem Go.Proofs.YtkggogbgnphmpaaDoor.Base

/-- A matrix, and a point, as values. -/
abbrev mV (m0 m1 m2 m3 m4 m5 : Int) : Value := .agg #[.int .i64 m0, .int .i64 m1, .int .i64 m2, .int .i64 m3, .int .i64 m4, .int .i64 m5]
abbrev mC (m0 m1 m2 m3 m4 m5 : Int) : Array Value := #[.int .i64 m0, .int .i64 m1, .int .i64 m2, .int .i64 m3, .int .i64 m4, .int .i64 m5]
abbrev pV (x y : Int) : Value := .agg #[.int .i64 x, .int .i64 y]
abbrev pC (x y : Int) : Array Value := #[.int .i64 x, .int .i64 y]

set_option maxHeartbeats 800000 in
set_option maxRecDepth 100000 in
theorem cStretch (x y : Int) (w : World) : Calls Tryd.prog 13 #[.int .i64 x, .int .i64 y] w fun e w' => e = .returned (mV x 0 0 y 0 0) ∧ Below w.heap.size w w' := by
  go_enter Tryd.func13, Tryd.ntmps13
  go_wp2
  exact bodyPost_ret (v := mV x 0 0 y 0 0) (by simp [results, Tryd.results13, go_sem]) rfl ⟨rfl, (Below.refl _ _).alloc (Nat.le_refl _) _⟩



set_option maxHeartbeats 800000 in
set_option maxRecDepth 100000 in
theorem cStretchX (x y : Int) (w : World) : Calls Tryd.prog 13 #[.int .i64 x, .int .i64 y] w fun e w' => e = .returned (mV x 0 0 y 0 0) ∧ w' = w.alloc (.cells (mC x 0 0 y 0 0) 22) := by
  go_enter Tryd.func13, Tryd.ntmps13
  go_wp2
  exact bodyPost_ret (v := mV x 0 0 y 0 0) (by simp [results, Tryd.results13, go_sem]) rfl ⟨rfl, rfl⟩



/-- The values of a matrix, and of its error. -/
abbrev r6V (r : R6) : Value := .tuple #[mV r.a r.b r.c r.d r.e r.f, .int .i64 r.s]

theorem load6 {W : World} {b : Nat} {v0 v1 v2 v3 v4 v5 : Int} (h : Has W b (mC v0 v1 v2 v3 v4 v5) 22) :
    (loadVar 22 ⟨b, 0, none⟩).run Tryd.prog W = .ok (mV v0 v1 v2 v3 v4 v5) W := by
  have c0 : W.cell? ⟨b, 0, none⟩ = some (.int .i64 v0) := h.cell 0
  have c1 : W.cell? ⟨b, 1, none⟩ = some (.int .i64 v1) := h.cell 1
  have c2 : W.cell? ⟨b, 2, none⟩ = some (.int .i64 v2) := h.cell 2
  have c3 : W.cell? ⟨b, 3, none⟩ = some (.int .i64 v3) := h.cell 3
  have c4 : W.cell? ⟨b, 4, none⟩ = some (.int .i64 v4) := h.cell 4
  have c5 : W.cell? ⟨b, 5, none⟩ = some (.int .i64 v5) := h.cell 5
  simp [loadVar, go_sem, c0, c1, c2, c3, c4, c5]

theorem load2 {W : World} {b : Nat} {v0 v1 : Int} (h : Has W b (pC v0 v1) 31) :
    (loadVar 31 ⟨b, 0, none⟩).run Tryd.prog W = .ok (pV v0 v1) W := by
  have c0 : W.cell? ⟨b, 0, none⟩ = some (.int .i64 v0) := h.cell 0
  have c1 : W.cell? ⟨b, 1, none⟩ = some (.int .i64 v1) := h.cell 1
  simp [loadVar, go_sem, c0, c1]

theorem out6 {fn : Func} {p u : Tmp} (hf : fn.results = #[.cell p 22, .tmp u]) {tmps : Array Value} {W : World} {b : Nat} {v0 v1 v2 v3 v4 v5 e : Int}
    (hp : tmps.getD p undef = .pointer (some ⟨b, 0, none⟩)) (hu : tmps.getD u undef = .int .i64 e) (h : Has W b (mC v0 v1 v2 v3 v4 v5) 22) :
    (results fn tmps).run Tryd.prog W = .ok (r6V ⟨v0, v1, v2, v3, v4, v5, e⟩) W := by
  rw [results_cell_tmp hf, hp, hu]
  simp [asAddr, Result.andThen, load6 h]

/-- The values of a point, and of its error. -/
abbrev finV (r : Int × Int × Int) : Value := .tuple #[pV r.1 r.2.1, .int .i64 r.2.2]

theorem out2 {fn : Func} {p u : Tmp} (hf : fn.results = #[.cell p 31, .tmp u]) {tmps : Array Value} {W : World} {b : Nat} {v0 v1 e : Int}
    (hp : tmps.getD p undef = .pointer (some ⟨b, 0, none⟩)) (hu : tmps.getD u undef = .int .i64 e) (h : Has W b (pC v0 v1) 31) :
    (results fn tmps).run Tryd.prog W = .ok (finV (v0, v1, e)) W := by
  rw [results_cell_tmp hf, hp, hu]
  simp [asAddr, Result.andThen, load2 h]

set_option maxHeartbeats 800000 in
set_option maxRecDepth 100000 in
theorem cPoint (g : Nat) (s x y : Int) (w : World) (hI : Has w g #[.int .i64 s] 37) :
    Calls Tryd.prog 16 #[.pointer (some ⟨g, 0, none⟩), .int .i64 x, .int .i64 y] w fun e w' => e = .returned (finV (fin s x y)) ∧ Below w.heap.size w w' := by
  have hlt := hI.lt
  have c0 : w.cell? ⟨g, 0, none⟩ = some (.int .i64 s) := hI.cell 0
  have hne : (g == w.heap.size) = false := by simp; omega
  have hne2 : g ≠ w.heap.size := by omega
  clear hI
  by_cases hs : s = 0
  · have e : fin s x y = (x, y, 0) := by unfold fin; rw [if_pos hs]
    rw [e]
    have c1 : (s == 0) = true := beq_iff_eq.mpr hs
    have c2 : (s != 0) = false := bne_eq_false_iff_eq.mpr hs
    clear hs e
    go_enter Tryd.func16, Tryd.ntmps16
    go_wp2
    exact bodyPost_ret (v := finV (x, y, 0)) (by simp [results, Tryd.results16, go_sem]) rfl ⟨rfl, by repeat (first | exact Below.refl _ _ | apply below_alloc | apply pw_below_drewN | apply below_drew1)⟩
  · have e : fin s x y = (0, 0, s) := by unfold fin; rw [if_neg hs]
    rw [e]
    have c1 : (s == 0) = false := beq_eq_false_iff_ne.mpr hs
    have c2 : (s != 0) = true := bne_iff_ne.mpr hs
    clear hs e
    go_enter Tryd.func16, Tryd.ntmps16
    go_wp2
    go_region
    all_goals go_wp2
    all_goals exact bodyPost_ret (v := finV (0, 0, s)) (by simp [results, Tryd.results16, go_sem]) rfl ⟨rfl, by repeat (first | exact Below.refl _ _ | apply below_alloc | apply pw_below_drewN | apply below_drew1)⟩

set_option maxHeartbeats 1600000 in
set_option maxRecDepth 100000 in
theorem cApply (m0 m1 m2 m3 m4 m5 x y : Int) (w : World) :
    Calls Tryd.prog 12 #[mV m0 m1 m2 m3 m4 m5, pV x y] w fun e w' => e = .returned (finV (applyA m0 m1 m2 m3 m4 m5 x y)) ∧ Below w.heap.size w w' := by
  go_enter Tryd.func12, Tryd.ntmps12
  go_wp2_with fail
  refine (cTwo1 (s := 0) (w0 := w) (t := m4) (by repeat (first | exact Has.new _ _ _ (by simp) | apply Has.alloc)) (by repeat (first | exact Has.new _ _ _ (by simp) | apply Has.alloc)) (by omega) (by repeat (first | exact Below.refl _ _ | apply below_alloc)) (by omega)).mono ?_
  rintro e w1 ⟨rfl, hS, hB, hk⟩
  have hM : Has w1 w.heap.size (mC m0 m1 m2 m3 m4 m5) 22 := Has.keep (by repeat (first | exact Has.new _ _ _ (by simp) | apply Has.alloc)) hk (by omega)
  have hP : Has w1 (w.heap.size + 1) (pC x y) 31 := Has.keep (by repeat (first | exact Has.new _ _ _ (by simp) | apply Has.alloc)) hk (by omega)
  have hR : Has w1 (w.heap.size + 1 + 1) (pC 0 0) 31 := Has.keep (by repeat (first | exact Has.new _ _ _ (by simp) | apply Has.alloc)) hk (by omega)
  clear hk
  have c1 : w1.cell? ⟨w.heap.size, 1, none⟩ = some (.int .i64 m1) := hM.cell 1
  have c3 : w1.cell? ⟨w.heap.size, 3, none⟩ = some (.int .i64 m3) := hM.cell 3
  have c5 : w1.cell? ⟨w.heap.size, 5, none⟩ = some (.int .i64 m5) := hM.cell 5
  have d0 : w1.cell? ⟨w.heap.size + 1, 0, none⟩ = some (.int .i64 x) := hP.cell 0
  have d1 : w1.cell? ⟨w.heap.size + 1, 1, none⟩ = some (.int .i64 y) := hP.cell 1
  have hlt := hS.lt
  go_wp2_with fail
  refine (cTwo1 (w0 := w) (t := m5) (hS.alloc _) (Has.new _ _ _ rfl) (by omega) (below_alloc hB _) (by omega)).mono ?_
  rintro e w2 ⟨rfl, hS2, hB2, hk2⟩
  have hR2 : Has w2 (w.heap.size + 1 + 1) (pC 0 0) 31 := (hR.alloc _).keep hk2 (by omega)
  clear hk2 c1 c3 c5 d0 d1 hM hP hR hS hB hlt
  go_wp2_with fail
  refine (cPoint _ _ _ _ _ hS2).mono ?_
  rintro e w3 ⟨rfl, hB3⟩
  generalize hr : fin _ _ _ = r
  have HR := Aside0.mk (show applyA m0 m1 m2 m3 m4 m5 x y = r from hr)
  clear hr
  have hR3 := hR2.below hB3
  have r0 : w3.cell? ⟨w.heap.size + 1 + 1, 0, none⟩ = some (.int .i64 0) := hR3.cell 0
  have r1 : w3.cell? ⟨w.heap.size + 1 + 1, 1, none⟩ = some (.int .i64 0) := hR3.cell 1
  have f0 : w3.frozen? ⟨w.heap.size + 1 + 1, 0, none⟩ = false := hR3.free 0
  have f1 : w3.frozen? ⟨w.heap.size + 1 + 1, 1, none⟩ = false := hR3.free 1
  have hB4 := below_step hB2 hB3
  clear hR2 hS2 hB2 hB3
  have hZ := (hR3.set 0 (.int .i64 r.1)).set 1 (.int .i64 r.2.1)
  have z0 := hZ.cell 0
  have z1 := hZ.cell 1
  simp at z0 z1
  go_wp2_with fail
  exact bodyPost_ret (v := finV r) (by simp [results, Tryd.results12, go_sem, z0, z1]) rfl ⟨by rw [HR.out], by repeat (first | (with_reducible first | exact hB4 | apply below_alloc | apply pw_below_drewN | apply below_drew1) | (with_reducible refine below_set ?_ (by omega)))⟩
end Go.Proofs.YtkggogbgnphmpaaDoor.MatA
