/- The walk of the law MatWhole. -/
import Derived.Test.YtkggogbgnphmpaaBackB
import Derived.Test.YtkggogbgnphmpaaBackD
import Derived.Test.YtkggogbgnphmpaaEq
namespace Go.Proofs.Ytkggogbgnphmpaa.Whole
open Go.RowKit Go.Proofs.YtkggogbgnphmpaaW.PrintWords Go.Proofs.YtkggogbgnphmpaaW.PrintLast Go.Proofs.YtkggogbgnphmpaaW.PrintMore
open Go.Proofs.Ytkggogbgnphmpaa.Sem Go.Proofs.Ytkggogbgnphmpaa.Base Go.Proofs.Ytkggogbgnphmpaa.MatA Go.Proofs.Ytkggogbgnphmpaa.MatB

theorem tmod_bnd (a : Int) {n : Int} (hn : 0 < n) : -n < a.tmod n ∧ a.tmod n < n := ⟨Int.lt_tmod_of_pos a hn, Int.tmod_lt_of_pos a hn⟩
/-- What is known of the first k numbers. -/
def pk (k i : Nat) (v : Int) : Int := if i < k then v else 0
abbrev bV (a0 a1 a2 a3 a4 a5 : Int) : Value := .agg #[.int .i8 a0, .int .i8 a1, .int .i8 a2, .int .i8 a3, .int .i8 a4, .int .i8 a5]
abbrev bC (a0 a1 a2 a3 a4 a5 : Int) : Array Value := #[.int .i8 a0, .int .i8 a1, .int .i8 a2, .int .i8 a3, .int .i8 a4, .int .i8 a5]
set_option maxHeartbeats 6400000 in
set_option maxRecDepth 100000 in
theorem walk {a0 a1 a2 a3 a4 a5 b0 b1 b2 b3 b4 b5 m0 m1 m2 m3 m4 m5 n0 n1 n2 n3 n4 n5 c0 c1 c2 c3 c4 c5 v0 v1 v2 v3 v4 v5 x y up X Y K q0 q1 r0 r1 t0 t1 : Int} (w : World) (ea0 : (a0).tmod 4 * 65536 = m0) (eb0 : (b0).tmod 4 * 65536 = n0) (ea1 : (a1).tmod 4 * 65536 = m1) (eb1 : (b1).tmod 4 * 65536 = n1) (ea2 : (a2).tmod 4 * 65536 = m2) (eb2 : (b2).tmod 4 * 65536 = n2) (ea3 : (a3).tmod 4 * 65536 = m3) (eb3 : (b3).tmod 4 * 65536 = n3) (ea4 : (a4).tmod 4 * 65536 = m4) (eb4 : (b4).tmod 4 * 65536 = n4) (ea5 : (a5).tmod 4 * 65536 = m5) (eb5 : (b5).tmod 4 * 65536 = n5)
    (ru : 0 ≤ up) (ex : x.tmod 20 * 65536 = X) (ey : y.tmod 20 * 65536 = Y) (eu : up.tmod 9 * 65536 = K)
    (HC : Aside0 (concatR deltaA applyA m0 m1 m2 m3 m4 m5 n0 n1 n2 n3 n4 n5 = ⟨c0, c1, c2, c3, c4, c5, 0⟩)) (HQ : Aside0 (applyA m0 m1 m2 m3 m4 m5 X Y = (q0, q1, 0))) (HQ2 : Aside0 (applyA n0 n1 n2 n3 n4 n5 q0 q1 = (r0, r1, 0))) (HR : Aside0 (applyA c0 c1 c2 c3 c4 c5 X Y = (r0, r1, 0)))
    (HI : Aside0 (invertR 65536 K 0 65536 m4 m5 = ⟨v0, v1, v2, v3, v4, v5, 0⟩)) (HT : Aside0 (applyA 65536 K 0 65536 m4 m5 X Y = (t0, t1, 0))) (HV : Aside0 (applyA v0 v1 v2 v3 v4 v5 t0 t1 = (X, Y, 0))) (HSc : Aside0 (scaleA 65536 K 0 65536 = (65536, 0))) :
    Calls Try.prog 7 #[bV a0 a1 a2 a3 a4 a5, bV b0 b1 b2 b3 b4 b5, .int .i8 x, .int .i8 y, .int .u8 up] w fun e w' => e = .returned (.bool true) ∧ Below w.heap.size w w' := by
  have ta0 : -3 ≤ (a0).tmod 4 ∧ (a0).tmod 4 ≤ 3 := by have := tmod_bnd a0 (n := 4) (by omega); omega
  have tb0 : -3 ≤ (b0).tmod 4 ∧ (b0).tmod 4 ≤ 3 := by have := tmod_bnd b0 (n := 4) (by omega); omega
  have ta1 : -3 ≤ (a1).tmod 4 ∧ (a1).tmod 4 ≤ 3 := by have := tmod_bnd a1 (n := 4) (by omega); omega
  have tb1 : -3 ≤ (b1).tmod 4 ∧ (b1).tmod 4 ≤ 3 := by have := tmod_bnd b1 (n := 4) (by omega); omega
  have ta2 : -3 ≤ (a2).tmod 4 ∧ (a2).tmod 4 ≤ 3 := by have := tmod_bnd a2 (n := 4) (by omega); omega
  have tb2 : -3 ≤ (b2).tmod 4 ∧ (b2).tmod 4 ≤ 3 := by have := tmod_bnd b2 (n := 4) (by omega); omega
  have ta3 : -3 ≤ (a3).tmod 4 ∧ (a3).tmod 4 ≤ 3 := by have := tmod_bnd a3 (n := 4) (by omega); omega
  have tb3 : -3 ≤ (b3).tmod 4 ∧ (b3).tmod 4 ≤ 3 := by have := tmod_bnd b3 (n := 4) (by omega); omega
  have ta4 : -3 ≤ (a4).tmod 4 ∧ (a4).tmod 4 ≤ 3 := by have := tmod_bnd a4 (n := 4) (by omega); omega
  have tb4 : -3 ≤ (b4).tmod 4 ∧ (b4).tmod 4 ≤ 3 := by have := tmod_bnd b4 (n := 4) (by omega); omega
  have ta5 : -3 ≤ (a5).tmod 4 ∧ (a5).tmod 4 ≤ 3 := by have := tmod_bnd a5 (n := 4) (by omega); omega
  have tb5 : -3 ≤ (b5).tmod 4 ∧ (b5).tmod 4 ≤ 3 := by have := tmod_bnd b5 (n := 4) (by omega); omega
  have tx : -19 ≤ x.tmod 20 ∧ x.tmod 20 ≤ 19 := by have := tmod_bnd x (n := 20) (by omega); omega
  have ty : -19 ≤ y.tmod 20 ∧ y.tmod 20 ≤ 19 := by have := tmod_bnd y (n := 20) (by omega); omega
  have tu : 0 ≤ up.tmod 9 ∧ up.tmod 9 ≤ 8 := by have := tmod_bnd up (n := 9) (by omega); have := Int.tmod_nonneg 9 ru; omega
  go_enter Try.func7, Try.ntmps7
  go_wp2
  go_loopw [13] (fun i wr => ∃ k : Nat, k ≤ 6 ∧ i = .int .i64 (k : Int) ∧ Aside0 (Has wr (w.heap.size) (bC a0 a1 a2 a3 a4 a5) 43 ∧ Has wr (w.heap.size + 1) (bC b0 b1 b2 b3 b4 b5) 43 ∧ Has wr (w.heap.size + 1 + 1) (mC (pk k 0 m0) (pk k 1 m1) (pk k 2 m2) (pk k 3 m3) (pk k 4 m4) (pk k 5 m5)) 22 ∧ Has wr (w.heap.size + 1 + 1 + 1) (mC (pk k 0 n0) (pk k 1 n1) (pk k 2 n2) (pk k 3 n3) (pk k 4 n4) (pk k 5 n5)) 22 ∧ Below w.heap.size w wr)) (fun i _ => 6 - (intOf i).toNat)
  case atStart =>
    refine ⟨0, by omega, rfl, ⟨?_, ?_, ?_, ?_, ?_⟩⟩
    · exact (show Has ((((w.alloc (.cells (bC a0 a1 a2 a3 a4 a5) 43)).alloc (.cells (bC b0 b1 b2 b3 b4 b5) 43)).alloc (.cells (mC 0 0 0 0 0 0) 22)).alloc (.cells (mC 0 0 0 0 0 0) 22)) (w.heap.size) (bC a0 a1 a2 a3 a4 a5) 43 from Has.alloc (Has.alloc (Has.alloc (Has.new w (bC a0 a1 a2 a3 a4 a5) 43 (by simp)) _) _) _)
    · exact (show Has ((((w.alloc (.cells (bC a0 a1 a2 a3 a4 a5) 43)).alloc (.cells (bC b0 b1 b2 b3 b4 b5) 43)).alloc (.cells (mC 0 0 0 0 0 0) 22)).alloc (.cells (mC 0 0 0 0 0 0) 22)) (w.heap.size + 1) (bC b0 b1 b2 b3 b4 b5) 43 from Has.alloc (Has.alloc (Has.new (w.alloc (.cells (bC a0 a1 a2 a3 a4 a5) 43)) (bC b0 b1 b2 b3 b4 b5) 43 (by simp)) _) _)
    · exact (show Has ((((w.alloc (.cells (bC a0 a1 a2 a3 a4 a5) 43)).alloc (.cells (bC b0 b1 b2 b3 b4 b5) 43)).alloc (.cells (mC 0 0 0 0 0 0) 22)).alloc (.cells (mC 0 0 0 0 0 0) 22)) (w.heap.size + 1 + 1) (mC 0 0 0 0 0 0) 22 from Has.alloc (Has.new ((w.alloc (.cells (bC a0 a1 a2 a3 a4 a5) 43)).alloc (.cells (bC b0 b1 b2 b3 b4 b5) 43)) (mC 0 0 0 0 0 0) 22 (by simp)) _)
    · exact (show Has ((((w.alloc (.cells (bC a0 a1 a2 a3 a4 a5) 43)).alloc (.cells (bC b0 b1 b2 b3 b4 b5) 43)).alloc (.cells (mC 0 0 0 0 0 0) 22)).alloc (.cells (mC 0 0 0 0 0 0) 22)) (w.heap.size + 1 + 1 + 1) (mC 0 0 0 0 0 0) 22 from Has.new (((w.alloc (.cells (bC a0 a1 a2 a3 a4 a5) 43)).alloc (.cells (bC b0 b1 b2 b3 b4 b5) 43)).alloc (.cells (mC 0 0 0 0 0 0) 22)) (mC 0 0 0 0 0 0) 22 (by simp))
    · exact below_alloc (below_alloc (below_alloc (below_alloc (Below.refl _ _) _) _) _) _
  case round =>
    obtain ⟨k, hk, rfl, hW⟩ := hrel
    obtain ⟨ha, hb, hm, hn, hB⟩ := hW.out
    clear hW
    have hA := Aside0.mk ha
    have hB2 := Aside0.mk hb
    have hM := Aside0.mk hm
    have hN := Aside0.mk hn
    have HB := Aside0.mk hB
    clear ha hb hm hn hB
    rcases (show k = 0 ∨ k = 1 ∨ k = 2 ∨ k = 3 ∨ k = 4 ∨ k = 5 ∨ k = 6 from by omega) with rfl | rfl | rfl | rfl | rfl | rfl | rfl
    · have z0 := hA.out.cell 0
      have z1 := hB2.out.cell 0
      have z2 := hM.out.cell 0
      have z3 := hN.out.cell 0
      have z4 := hM.out.free 0
      have z5 := hN.out.free 0
      simp only [List.getElem?_toArray, List.getElem?_cons_zero] at z0 z1 z2 z3
      have ua : IntKind.i64.wrap ((a0).tmod 4) = (a0).tmod 4 := IntWalk.i64_in _ (by omega)
      have sa : IntKind.i64.wrap ((a0).tmod 4 * 65536) = m0 := (IntWalk.i64_in _ (by omega)).trans ea0
      have ra : IntKind.i8.wrap ((a0).tmod 4) = (a0).tmod 4 := IntWalk.i8_in _ (by omega)
      have ub : IntKind.i64.wrap ((b0).tmod 4) = (b0).tmod 4 := IntWalk.i64_in _ (by omega)
      have sb : IntKind.i64.wrap ((b0).tmod 4 * 65536) = n0 := (IntWalk.i64_in _ (by omega)).trans eb0
      have rb : IntKind.i8.wrap ((b0).tmod 4) = (b0).tmod 4 := IntWalk.i8_in _ (by omega)
      go_wp2
      have hA2 := Has.far (Has.far hA.out (p := ⟨w.heap.size + 1 + 1, 0, none⟩) (by dsimp only; omega) (.int .i64 m0)) (p := ⟨w.heap.size + 1 + 1 + 1, 0, none⟩) (by dsimp only; omega) (.int .i64 n0)
      have hB3 := Has.far (Has.far hB2.out (p := ⟨w.heap.size + 1 + 1, 0, none⟩) (by dsimp only; omega) (.int .i64 m0)) (p := ⟨w.heap.size + 1 + 1 + 1, 0, none⟩) (by dsimp only; omega) (.int .i64 n0)
      have hM2 := Has.far (Has.set (show Has wr (w.heap.size + 1 + 1) (mC 0 0 0 0 0 0) 22 from hM.out) 0 (.int .i64 m0)) (p := ⟨w.heap.size + 1 + 1 + 1, 0, none⟩) (by dsimp only; omega) (.int .i64 n0)
      have hN2 := Has.set (Has.far (show Has wr (w.heap.size + 1 + 1 + 1) (mC 0 0 0 0 0 0) 22 from hN.out) (p := ⟨w.heap.size + 1 + 1, 0, none⟩) (by dsimp only; omega) (.int .i64 m0)) 0 (.int .i64 n0)
      have hX := below_set (g := w.heap.size + 1 + 1 + 1) (j := 0) (v := .int .i64 n0) (below_set (g := w.heap.size + 1 + 1) (j := 0) (v := .int .i64 m0) HB.out (by omega)) (by omega)
      go_roundw
      case rel => exact ⟨1, by omega, rfl, ⟨hA2, hB3, hM2, hN2, hX⟩⟩
      case measure => first | (simp [intOf]; done) | (simp [intOf]; omega)
    · have z0 := hA.out.cell 1
      have z1 := hB2.out.cell 1
      have z2 := hM.out.cell 1
      have z3 := hN.out.cell 1
      have z4 := hM.out.free 1
      have z5 := hN.out.free 1
      simp only [List.getElem?_toArray, List.getElem?_cons_zero, List.getElem?_cons_succ] at z0 z1 z2 z3
      have ua : IntKind.i64.wrap ((a1).tmod 4) = (a1).tmod 4 := IntWalk.i64_in _ (by omega)
      have sa : IntKind.i64.wrap ((a1).tmod 4 * 65536) = m1 := (IntWalk.i64_in _ (by omega)).trans ea1
      have ra : IntKind.i8.wrap ((a1).tmod 4) = (a1).tmod 4 := IntWalk.i8_in _ (by omega)
      have ub : IntKind.i64.wrap ((b1).tmod 4) = (b1).tmod 4 := IntWalk.i64_in _ (by omega)
      have sb : IntKind.i64.wrap ((b1).tmod 4 * 65536) = n1 := (IntWalk.i64_in _ (by omega)).trans eb1
      have rb : IntKind.i8.wrap ((b1).tmod 4) = (b1).tmod 4 := IntWalk.i8_in _ (by omega)
      go_wp2
      have hA2 := Has.far (Has.far hA.out (p := ⟨w.heap.size + 1 + 1, 1, none⟩) (by dsimp only; omega) (.int .i64 m1)) (p := ⟨w.heap.size + 1 + 1 + 1, 1, none⟩) (by dsimp only; omega) (.int .i64 n1)
      have hB3 := Has.far (Has.far hB2.out (p := ⟨w.heap.size + 1 + 1, 1, none⟩) (by dsimp only; omega) (.int .i64 m1)) (p := ⟨w.heap.size + 1 + 1 + 1, 1, none⟩) (by dsimp only; omega) (.int .i64 n1)
      have hM2 := Has.far (Has.set (show Has wr (w.heap.size + 1 + 1) (mC m0 0 0 0 0 0) 22 from hM.out) 1 (.int .i64 m1)) (p := ⟨w.heap.size + 1 + 1 + 1, 1, none⟩) (by dsimp only; omega) (.int .i64 n1)
      have hN2 := Has.set (Has.far (show Has wr (w.heap.size + 1 + 1 + 1) (mC n0 0 0 0 0 0) 22 from hN.out) (p := ⟨w.heap.size + 1 + 1, 1, none⟩) (by dsimp only; omega) (.int .i64 m1)) 1 (.int .i64 n1)
      have hX := below_set (g := w.heap.size + 1 + 1 + 1) (j := 1) (v := .int .i64 n1) (below_set (g := w.heap.size + 1 + 1) (j := 1) (v := .int .i64 m1) HB.out (by omega)) (by omega)
      go_roundw
      case rel => exact ⟨2, by omega, rfl, ⟨hA2, hB3, hM2, hN2, hX⟩⟩
      case measure => first | (simp [intOf]; done) | (simp [intOf]; omega)
    · have z0 := hA.out.cell 2
      have z1 := hB2.out.cell 2
      have z2 := hM.out.cell 2
      have z3 := hN.out.cell 2
      have z4 := hM.out.free 2
      have z5 := hN.out.free 2
      simp only [List.getElem?_toArray, List.getElem?_cons_zero, List.getElem?_cons_succ] at z0 z1 z2 z3
      have ua : IntKind.i64.wrap ((a2).tmod 4) = (a2).tmod 4 := IntWalk.i64_in _ (by omega)
      have sa : IntKind.i64.wrap ((a2).tmod 4 * 65536) = m2 := (IntWalk.i64_in _ (by omega)).trans ea2
      have ra : IntKind.i8.wrap ((a2).tmod 4) = (a2).tmod 4 := IntWalk.i8_in _ (by omega)
      have ub : IntKind.i64.wrap ((b2).tmod 4) = (b2).tmod 4 := IntWalk.i64_in _ (by omega)
      have sb : IntKind.i64.wrap ((b2).tmod 4 * 65536) = n2 := (IntWalk.i64_in _ (by omega)).trans eb2
      have rb : IntKind.i8.wrap ((b2).tmod 4) = (b2).tmod 4 := IntWalk.i8_in _ (by omega)
      go_wp2
      have hA2 := Has.far (Has.far hA.out (p := ⟨w.heap.size + 1 + 1, 2, none⟩) (by dsimp only; omega) (.int .i64 m2)) (p := ⟨w.heap.size + 1 + 1 + 1, 2, none⟩) (by dsimp only; omega) (.int .i64 n2)
      have hB3 := Has.far (Has.far hB2.out (p := ⟨w.heap.size + 1 + 1, 2, none⟩) (by dsimp only; omega) (.int .i64 m2)) (p := ⟨w.heap.size + 1 + 1 + 1, 2, none⟩) (by dsimp only; omega) (.int .i64 n2)
      have hM2 := Has.far (Has.set (show Has wr (w.heap.size + 1 + 1) (mC m0 m1 0 0 0 0) 22 from hM.out) 2 (.int .i64 m2)) (p := ⟨w.heap.size + 1 + 1 + 1, 2, none⟩) (by dsimp only; omega) (.int .i64 n2)
      have hN2 := Has.set (Has.far (show Has wr (w.heap.size + 1 + 1 + 1) (mC n0 n1 0 0 0 0) 22 from hN.out) (p := ⟨w.heap.size + 1 + 1, 2, none⟩) (by dsimp only; omega) (.int .i64 m2)) 2 (.int .i64 n2)
      have hX := below_set (g := w.heap.size + 1 + 1 + 1) (j := 2) (v := .int .i64 n2) (below_set (g := w.heap.size + 1 + 1) (j := 2) (v := .int .i64 m2) HB.out (by omega)) (by omega)
      go_roundw
      case rel => exact ⟨3, by omega, rfl, ⟨hA2, hB3, hM2, hN2, hX⟩⟩
      case measure => first | (simp [intOf]; done) | (simp [intOf]; omega)
    · have z0 := hA.out.cell 3
      have z1 := hB2.out.cell 3
      have z2 := hM.out.cell 3
      have z3 := hN.out.cell 3
      have z4 := hM.out.free 3
      have z5 := hN.out.free 3
      simp only [List.getElem?_toArray, List.getElem?_cons_zero, List.getElem?_cons_succ] at z0 z1 z2 z3
      have ua : IntKind.i64.wrap ((a3).tmod 4) = (a3).tmod 4 := IntWalk.i64_in _ (by omega)
      have sa : IntKind.i64.wrap ((a3).tmod 4 * 65536) = m3 := (IntWalk.i64_in _ (by omega)).trans ea3
      have ra : IntKind.i8.wrap ((a3).tmod 4) = (a3).tmod 4 := IntWalk.i8_in _ (by omega)
      have ub : IntKind.i64.wrap ((b3).tmod 4) = (b3).tmod 4 := IntWalk.i64_in _ (by omega)
      have sb : IntKind.i64.wrap ((b3).tmod 4 * 65536) = n3 := (IntWalk.i64_in _ (by omega)).trans eb3
      have rb : IntKind.i8.wrap ((b3).tmod 4) = (b3).tmod 4 := IntWalk.i8_in _ (by omega)
      go_wp2
      have hA2 := Has.far (Has.far hA.out (p := ⟨w.heap.size + 1 + 1, 3, none⟩) (by dsimp only; omega) (.int .i64 m3)) (p := ⟨w.heap.size + 1 + 1 + 1, 3, none⟩) (by dsimp only; omega) (.int .i64 n3)
      have hB3 := Has.far (Has.far hB2.out (p := ⟨w.heap.size + 1 + 1, 3, none⟩) (by dsimp only; omega) (.int .i64 m3)) (p := ⟨w.heap.size + 1 + 1 + 1, 3, none⟩) (by dsimp only; omega) (.int .i64 n3)
      have hM2 := Has.far (Has.set (show Has wr (w.heap.size + 1 + 1) (mC m0 m1 m2 0 0 0) 22 from hM.out) 3 (.int .i64 m3)) (p := ⟨w.heap.size + 1 + 1 + 1, 3, none⟩) (by dsimp only; omega) (.int .i64 n3)
      have hN2 := Has.set (Has.far (show Has wr (w.heap.size + 1 + 1 + 1) (mC n0 n1 n2 0 0 0) 22 from hN.out) (p := ⟨w.heap.size + 1 + 1, 3, none⟩) (by dsimp only; omega) (.int .i64 m3)) 3 (.int .i64 n3)
      have hX := below_set (g := w.heap.size + 1 + 1 + 1) (j := 3) (v := .int .i64 n3) (below_set (g := w.heap.size + 1 + 1) (j := 3) (v := .int .i64 m3) HB.out (by omega)) (by omega)
      go_roundw
      case rel => exact ⟨4, by omega, rfl, ⟨hA2, hB3, hM2, hN2, hX⟩⟩
      case measure => first | (simp [intOf]; done) | (simp [intOf]; omega)
    · have z0 := hA.out.cell 4
      have z1 := hB2.out.cell 4
      have z2 := hM.out.cell 4
      have z3 := hN.out.cell 4
      have z4 := hM.out.free 4
      have z5 := hN.out.free 4
      simp only [List.getElem?_toArray, List.getElem?_cons_zero, List.getElem?_cons_succ] at z0 z1 z2 z3
      have ua : IntKind.i64.wrap ((a4).tmod 4) = (a4).tmod 4 := IntWalk.i64_in _ (by omega)
      have sa : IntKind.i64.wrap ((a4).tmod 4 * 65536) = m4 := (IntWalk.i64_in _ (by omega)).trans ea4
      have ra : IntKind.i8.wrap ((a4).tmod 4) = (a4).tmod 4 := IntWalk.i8_in _ (by omega)
      have ub : IntKind.i64.wrap ((b4).tmod 4) = (b4).tmod 4 := IntWalk.i64_in _ (by omega)
      have sb : IntKind.i64.wrap ((b4).tmod 4 * 65536) = n4 := (IntWalk.i64_in _ (by omega)).trans eb4
      have rb : IntKind.i8.wrap ((b4).tmod 4) = (b4).tmod 4 := IntWalk.i8_in _ (by omega)
      go_wp2
      have hA2 := Has.far (Has.far hA.out (p := ⟨w.heap.size + 1 + 1, 4, none⟩) (by dsimp only; omega) (.int .i64 m4)) (p := ⟨w.heap.size + 1 + 1 + 1, 4, none⟩) (by dsimp only; omega) (.int .i64 n4)
      have hB3 := Has.far (Has.far hB2.out (p := ⟨w.heap.size + 1 + 1, 4, none⟩) (by dsimp only; omega) (.int .i64 m4)) (p := ⟨w.heap.size + 1 + 1 + 1, 4, none⟩) (by dsimp only; omega) (.int .i64 n4)
      have hM2 := Has.far (Has.set (show Has wr (w.heap.size + 1 + 1) (mC m0 m1 m2 m3 0 0) 22 from hM.out) 4 (.int .i64 m4)) (p := ⟨w.heap.size + 1 + 1 + 1, 4, none⟩) (by dsimp only; omega) (.int .i64 n4)
      have hN2 := Has.set (Has.far (show Has wr (w.heap.size + 1 + 1 + 1) (mC n0 n1 n2 n3 0 0) 22 from hN.out) (p := ⟨w.heap.size + 1 + 1, 4, none⟩) (by dsimp only; omega) (.int .i64 m4)) 4 (.int .i64 n4)
      have hX := below_set (g := w.heap.size + 1 + 1 + 1) (j := 4) (v := .int .i64 n4) (below_set (g := w.heap.size + 1 + 1) (j := 4) (v := .int .i64 m4) HB.out (by omega)) (by omega)
      go_roundw
      case rel => exact ⟨5, by omega, rfl, ⟨hA2, hB3, hM2, hN2, hX⟩⟩
      case measure => first | (simp [intOf]; done) | (simp [intOf]; omega)
    · have z0 := hA.out.cell 5
      have z1 := hB2.out.cell 5
      have z2 := hM.out.cell 5
      have z3 := hN.out.cell 5
      have z4 := hM.out.free 5
      have z5 := hN.out.free 5
      simp only [List.getElem?_toArray, List.getElem?_cons_zero, List.getElem?_cons_succ] at z0 z1 z2 z3
      have ua : IntKind.i64.wrap ((a5).tmod 4) = (a5).tmod 4 := IntWalk.i64_in _ (by omega)
      have sa : IntKind.i64.wrap ((a5).tmod 4 * 65536) = m5 := (IntWalk.i64_in _ (by omega)).trans ea5
      have ra : IntKind.i8.wrap ((a5).tmod 4) = (a5).tmod 4 := IntWalk.i8_in _ (by omega)
      have ub : IntKind.i64.wrap ((b5).tmod 4) = (b5).tmod 4 := IntWalk.i64_in _ (by omega)
      have sb : IntKind.i64.wrap ((b5).tmod 4 * 65536) = n5 := (IntWalk.i64_in _ (by omega)).trans eb5
      have rb : IntKind.i8.wrap ((b5).tmod 4) = (b5).tmod 4 := IntWalk.i8_in _ (by omega)
      go_wp2
      have hA2 := Has.far (Has.far hA.out (p := ⟨w.heap.size + 1 + 1, 5, none⟩) (by dsimp only; omega) (.int .i64 m5)) (p := ⟨w.heap.size + 1 + 1 + 1, 5, none⟩) (by dsimp only; omega) (.int .i64 n5)
      have hB3 := Has.far (Has.far hB2.out (p := ⟨w.heap.size + 1 + 1, 5, none⟩) (by dsimp only; omega) (.int .i64 m5)) (p := ⟨w.heap.size + 1 + 1 + 1, 5, none⟩) (by dsimp only; omega) (.int .i64 n5)
      have hM2 := Has.far (Has.set (show Has wr (w.heap.size + 1 + 1) (mC m0 m1 m2 m3 m4 0) 22 from hM.out) 5 (.int .i64 m5)) (p := ⟨w.heap.size + 1 + 1 + 1, 5, none⟩) (by dsimp only; omega) (.int .i64 n5)
      have hN2 := Has.set (Has.far (show Has wr (w.heap.size + 1 + 1 + 1) (mC n0 n1 n2 n3 n4 0) 22 from hN.out) (p := ⟨w.heap.size + 1 + 1, 5, none⟩) (by dsimp only; omega) (.int .i64 m5)) 5 (.int .i64 n5)
      have hX := below_set (g := w.heap.size + 1 + 1 + 1) (j := 5) (v := .int .i64 n5) (below_set (g := w.heap.size + 1 + 1) (j := 5) (v := .int .i64 m5) HB.out (by omega)) (by omega)
      go_roundw
      case rel => exact ⟨6, by omega, rfl, ⟨hA2, hB3, hM2, hN2, hX⟩⟩
      case measure => first | (simp [intOf]; done) | (simp [intOf]; omega)
    · have hM2 := Aside0.mk (show Has wr (w.heap.size + 1 + 1) (mC m0 m1 m2 m3 m4 m5) 22 from hM.out)
      have hN2 := Aside0.mk (show Has wr (w.heap.size + 1 + 1 + 1) (mC n0 n1 n2 n3 n4 n5) 22 from hN.out)
      clear hM hN hA hB2 hk
      have hM := hM2
      have hN := hN2
      clear hM2 hN2
      have ux : IntKind.i64.wrap (x.tmod 20) = x.tmod 20 := IntWalk.i64_in _ (by omega)
      have sx : IntKind.i64.wrap (x.tmod 20 * 65536) = X := (IntWalk.i64_in _ (by omega)).trans ex
      have rx : IntKind.i8.wrap (x.tmod 20) = x.tmod 20 := IntWalk.i8_in _ (by omega)
      have uy : IntKind.i64.wrap (y.tmod 20) = y.tmod 20 := IntWalk.i64_in _ (by omega)
      have sy : IntKind.i64.wrap (y.tmod 20 * 65536) = Y := (IntWalk.i64_in _ (by omega)).trans ey
      have ry : IntKind.i8.wrap (y.tmod 20) = y.tmod 20 := IntWalk.i8_in _ (by omega)
      have uup : IntKind.i64.wrap (up.tmod 9) = up.tmod 9 := IntWalk.i64_in _ (by omega)
      have sup : IntKind.i64.wrap (up.tmod 9 * 65536) = K := (IntWalk.i64_in _ (by omega)).trans eu
      have rup : IntKind.u8.wrap (up.tmod 9) = up.tmod 9 := IntWalk.u8_in _ (by omega)
      clear ea0 ea1 ea2 ea3 ea4 ea5 eb0 eb1 eb2 eb3 eb4 eb5 ta0 ta1 ta2 ta3 ta4 ta5 tb0 tb1 tb2 tb3 tb4 tb5 ru
      go_upto_region 8 with fail
      have cm0 : wr.cell? ⟨w.heap.size + 1 + 1, 0, none⟩ = some (.int .i64 m0) := hM.out.cell 0
      have cm1 : wr.cell? ⟨w.heap.size + 1 + 1, 1, none⟩ = some (.int .i64 m1) := hM.out.cell 1
      have cm2 : wr.cell? ⟨w.heap.size + 1 + 1, 2, none⟩ = some (.int .i64 m2) := hM.out.cell 2
      have cm3 : wr.cell? ⟨w.heap.size + 1 + 1, 3, none⟩ = some (.int .i64 m3) := hM.out.cell 3
      have cm4 : wr.cell? ⟨w.heap.size + 1 + 1, 4, none⟩ = some (.int .i64 m4) := hM.out.cell 4
      have cm5 : wr.cell? ⟨w.heap.size + 1 + 1, 5, none⟩ = some (.int .i64 m5) := hM.out.cell 5
      have lhM := hM.out.lt
      have cn0 : wr.cell? ⟨w.heap.size + 1 + 1 + 1, 0, none⟩ = some (.int .i64 n0) := hN.out.cell 0
      have cn1 : wr.cell? ⟨w.heap.size + 1 + 1 + 1, 1, none⟩ = some (.int .i64 n1) := hN.out.cell 1
      have cn2 : wr.cell? ⟨w.heap.size + 1 + 1 + 1, 2, none⟩ = some (.int .i64 n2) := hN.out.cell 2
      have cn3 : wr.cell? ⟨w.heap.size + 1 + 1 + 1, 3, none⟩ = some (.int .i64 n3) := hN.out.cell 3
      have cn4 : wr.cell? ⟨w.heap.size + 1 + 1 + 1, 4, none⟩ = some (.int .i64 n4) := hN.out.cell 4
      have cn5 : wr.cell? ⟨w.heap.size + 1 + 1 + 1, 5, none⟩ = some (.int .i64 n5) := hN.out.cell 5
      have lhN := hN.out.lt
      have nhM := Aside0.mk (show Has (wr.alloc (.cells (pC X Y) 24)) (w.heap.size + 1 + 1) (mC m0 m1 m2 m3 m4 m5) 22 from Has.alloc hM.out _)
      have nhN := Aside0.mk (show Has (wr.alloc (.cells (pC X Y) 24)) (w.heap.size + 1 + 1 + 1) (mC n0 n1 n2 n3 n4 n5) 22 from Has.alloc hN.out _)
      have nHB := Aside0.mk (below_alloc HB.out (.cells (pC X Y) 24))
      have N0 := Aside0.mk (Has.new wr (pC X Y) 24 rfl)
      clear cm0 cm1 cm2 cm3 cm4 cm5 lhM cn0 cn1 cn2 cn3 cn4 cn5 lhN
      clear hM hN HB
      have hM := nhM
      clear nhM
      have hN := nhN
      clear nhN
      have HB := nHB
      clear nHB
      have hP := N0
      clear N0
      generalize wr.alloc (.cells (pC X Y) 24) = W0 at *
      have cm0 : W0.cell? ⟨w.heap.size + 1 + 1, 0, none⟩ = some (.int .i64 m0) := hM.out.cell 0
      have cm1 : W0.cell? ⟨w.heap.size + 1 + 1, 1, none⟩ = some (.int .i64 m1) := hM.out.cell 1
      have cm2 : W0.cell? ⟨w.heap.size + 1 + 1, 2, none⟩ = some (.int .i64 m2) := hM.out.cell 2
      have cm3 : W0.cell? ⟨w.heap.size + 1 + 1, 3, none⟩ = some (.int .i64 m3) := hM.out.cell 3
      have cm4 : W0.cell? ⟨w.heap.size + 1 + 1, 4, none⟩ = some (.int .i64 m4) := hM.out.cell 4
      have cm5 : W0.cell? ⟨w.heap.size + 1 + 1, 5, none⟩ = some (.int .i64 m5) := hM.out.cell 5
      have lhM := hM.out.lt
      have cn0 : W0.cell? ⟨w.heap.size + 1 + 1 + 1, 0, none⟩ = some (.int .i64 n0) := hN.out.cell 0
      have cn1 : W0.cell? ⟨w.heap.size + 1 + 1 + 1, 1, none⟩ = some (.int .i64 n1) := hN.out.cell 1
      have cn2 : W0.cell? ⟨w.heap.size + 1 + 1 + 1, 2, none⟩ = some (.int .i64 n2) := hN.out.cell 2
      have cn3 : W0.cell? ⟨w.heap.size + 1 + 1 + 1, 3, none⟩ = some (.int .i64 n3) := hN.out.cell 3
      have cn4 : W0.cell? ⟨w.heap.size + 1 + 1 + 1, 4, none⟩ = some (.int .i64 n4) := hN.out.cell 4
      have cn5 : W0.cell? ⟨w.heap.size + 1 + 1 + 1, 5, none⟩ = some (.int .i64 n5) := hN.out.cell 5
      have lhN := hN.out.lt
      have cp0 : W0.cell? ⟨wr.heap.size, 0, none⟩ = some (.int .i64 X) := hP.out.cell 0
      have cp1 : W0.cell? ⟨wr.heap.size, 1, none⟩ = some (.int .i64 Y) := hP.out.cell 1
      have lhP := hP.out.lt
      go_upto_region 9 with (go_at_call 16; ((with_reducible refine (cConcat _ _ _ _ _ _ _ _ _ _ _ _ _ ).mono ?_); rintro e w1 ⟨rfl, hb⟩; rw [HC.out]; have nhM := Aside0.mk (show Has w1 (w.heap.size + 1 + 1) (mC m0 m1 m2 m3 m4 m5) 22 from Has.below (by repeat (first | (with_reducible exact hM.out) | (with_reducible first | apply Has.alloc | apply Has.drewN | apply Has.drew) | (with_reducible refine Has.far ?_ (by dsimp only; omega) _))) hb); have nhN := Aside0.mk (show Has w1 (w.heap.size + 1 + 1 + 1) (mC n0 n1 n2 n3 n4 n5) 22 from Has.below (by repeat (first | (with_reducible exact hN.out) | (with_reducible first | apply Has.alloc | apply Has.drewN | apply Has.drew) | (with_reducible refine Has.far ?_ (by dsimp only; omega) _))) hb); have nhP := Aside0.mk (show Has w1 (wr.heap.size) (pC X Y) 24 from Has.below (by repeat (first | (with_reducible exact hP.out) | (with_reducible first | apply Has.alloc | apply Has.drewN | apply Has.drew) | (with_reducible refine Has.far ?_ (by dsimp only; omega) _))) hb); have nHB := Aside0.mk (below_step (by repeat (first | (with_reducible first | exact HB.out | apply below_alloc | apply pw_below_drewN | apply below_drew1))) hb); clear hb cm0 cm1 cm2 cm3 cm4 cm5 lhM cn0 cn1 cn2 cn3 cn4 cn5 lhN cp0 cp1 lhP; clear hM hN hP HB; have hM := nhM; clear nhM; have hN := nhN; clear nhN; have hP := nhP; clear nhP; have HB := nHB; clear nHB; have cm0 : w1.cell? ⟨w.heap.size + 1 + 1, 0, none⟩ = some (.int .i64 m0) := hM.out.cell 0; have cm1 : w1.cell? ⟨w.heap.size + 1 + 1, 1, none⟩ = some (.int .i64 m1) := hM.out.cell 1; have cm2 : w1.cell? ⟨w.heap.size + 1 + 1, 2, none⟩ = some (.int .i64 m2) := hM.out.cell 2; have cm3 : w1.cell? ⟨w.heap.size + 1 + 1, 3, none⟩ = some (.int .i64 m3) := hM.out.cell 3; have cm4 : w1.cell? ⟨w.heap.size + 1 + 1, 4, none⟩ = some (.int .i64 m4) := hM.out.cell 4; have cm5 : w1.cell? ⟨w.heap.size + 1 + 1, 5, none⟩ = some (.int .i64 m5) := hM.out.cell 5; have lhM := hM.out.lt; have cn0 : w1.cell? ⟨w.heap.size + 1 + 1 + 1, 0, none⟩ = some (.int .i64 n0) := hN.out.cell 0; have cn1 : w1.cell? ⟨w.heap.size + 1 + 1 + 1, 1, none⟩ = some (.int .i64 n1) := hN.out.cell 1; have cn2 : w1.cell? ⟨w.heap.size + 1 + 1 + 1, 2, none⟩ = some (.int .i64 n2) := hN.out.cell 2; have cn3 : w1.cell? ⟨w.heap.size + 1 + 1 + 1, 3, none⟩ = some (.int .i64 n3) := hN.out.cell 3; have cn4 : w1.cell? ⟨w.heap.size + 1 + 1 + 1, 4, none⟩ = some (.int .i64 n4) := hN.out.cell 4; have cn5 : w1.cell? ⟨w.heap.size + 1 + 1 + 1, 5, none⟩ = some (.int .i64 n5) := hN.out.cell 5; have lhN := hN.out.lt; have cp0 : w1.cell? ⟨wr.heap.size, 0, none⟩ = some (.int .i64 X) := hP.out.cell 0; have cp1 : w1.cell? ⟨wr.heap.size, 1, none⟩ = some (.int .i64 Y) := hP.out.cell 1; have lhP := hP.out.lt; skip))
      have nhM := Aside0.mk (show Has (w1.alloc (.cells (mC c0 c1 c2 c3 c4 c5) 22)) (w.heap.size + 1 + 1) (mC m0 m1 m2 m3 m4 m5) 22 from Has.alloc hM.out _)
      have nhN := Aside0.mk (show Has (w1.alloc (.cells (mC c0 c1 c2 c3 c4 c5) 22)) (w.heap.size + 1 + 1 + 1) (mC n0 n1 n2 n3 n4 n5) 22 from Has.alloc hN.out _)
      have nhP := Aside0.mk (show Has (w1.alloc (.cells (mC c0 c1 c2 c3 c4 c5) 22)) (wr.heap.size) (pC X Y) 24 from Has.alloc hP.out _)
      have nHB := Aside0.mk (below_alloc HB.out (.cells (mC c0 c1 c2 c3 c4 c5) 22))
      have N0 := Aside0.mk (Has.new w1 (mC c0 c1 c2 c3 c4 c5) 22 rfl)
      clear cm0 cm1 cm2 cm3 cm4 cm5 lhM cn0 cn1 cn2 cn3 cn4 cn5 lhN cp0 cp1 lhP
      clear hM hN hP HB
      have hM := nhM
      clear nhM
      have hN := nhN
      clear nhN
      have hP := nhP
      clear nhP
      have HB := nHB
      clear nHB
      have hC := N0
      clear N0
      generalize w1.alloc (.cells (mC c0 c1 c2 c3 c4 c5) 22) = W1 at *
      have cm0 : W1.cell? ⟨w.heap.size + 1 + 1, 0, none⟩ = some (.int .i64 m0) := hM.out.cell 0
      have cm1 : W1.cell? ⟨w.heap.size + 1 + 1, 1, none⟩ = some (.int .i64 m1) := hM.out.cell 1
      have cm2 : W1.cell? ⟨w.heap.size + 1 + 1, 2, none⟩ = some (.int .i64 m2) := hM.out.cell 2
      have cm3 : W1.cell? ⟨w.heap.size + 1 + 1, 3, none⟩ = some (.int .i64 m3) := hM.out.cell 3
      have cm4 : W1.cell? ⟨w.heap.size + 1 + 1, 4, none⟩ = some (.int .i64 m4) := hM.out.cell 4
      have cm5 : W1.cell? ⟨w.heap.size + 1 + 1, 5, none⟩ = some (.int .i64 m5) := hM.out.cell 5
      have lhM := hM.out.lt
      have cn0 : W1.cell? ⟨w.heap.size + 1 + 1 + 1, 0, none⟩ = some (.int .i64 n0) := hN.out.cell 0
      have cn1 : W1.cell? ⟨w.heap.size + 1 + 1 + 1, 1, none⟩ = some (.int .i64 n1) := hN.out.cell 1
      have cn2 : W1.cell? ⟨w.heap.size + 1 + 1 + 1, 2, none⟩ = some (.int .i64 n2) := hN.out.cell 2
      have cn3 : W1.cell? ⟨w.heap.size + 1 + 1 + 1, 3, none⟩ = some (.int .i64 n3) := hN.out.cell 3
      have cn4 : W1.cell? ⟨w.heap.size + 1 + 1 + 1, 4, none⟩ = some (.int .i64 n4) := hN.out.cell 4
      have cn5 : W1.cell? ⟨w.heap.size + 1 + 1 + 1, 5, none⟩ = some (.int .i64 n5) := hN.out.cell 5
      have lhN := hN.out.lt
      have cp0 : W1.cell? ⟨wr.heap.size, 0, none⟩ = some (.int .i64 X) := hP.out.cell 0
      have cp1 : W1.cell? ⟨wr.heap.size, 1, none⟩ = some (.int .i64 Y) := hP.out.cell 1
      have lhP := hP.out.lt
      have cc0 : W1.cell? ⟨w1.heap.size, 0, none⟩ = some (.int .i64 c0) := hC.out.cell 0
      have cc1 : W1.cell? ⟨w1.heap.size, 1, none⟩ = some (.int .i64 c1) := hC.out.cell 1
      have cc2 : W1.cell? ⟨w1.heap.size, 2, none⟩ = some (.int .i64 c2) := hC.out.cell 2
      have cc3 : W1.cell? ⟨w1.heap.size, 3, none⟩ = some (.int .i64 c3) := hC.out.cell 3
      have cc4 : W1.cell? ⟨w1.heap.size, 4, none⟩ = some (.int .i64 c4) := hC.out.cell 4
      have cc5 : W1.cell? ⟨w1.heap.size, 5, none⟩ = some (.int .i64 c5) := hC.out.cell 5
      have lhC := hC.out.lt
      go_upto_region 10 with (go_at_call 8; ((with_reducible refine (cApply _ _ _ _ _ _ _ _ _ ).mono ?_); rintro e w2 ⟨rfl, hb⟩; rw [HQ.out]; have nhM := Aside0.mk (show Has w2 (w.heap.size + 1 + 1) (mC m0 m1 m2 m3 m4 m5) 22 from Has.below (by repeat (first | (with_reducible exact hM.out) | (with_reducible first | apply Has.alloc | apply Has.drewN | apply Has.drew) | (with_reducible refine Has.far ?_ (by dsimp only; omega) _))) hb); have nhN := Aside0.mk (show Has w2 (w.heap.size + 1 + 1 + 1) (mC n0 n1 n2 n3 n4 n5) 22 from Has.below (by repeat (first | (with_reducible exact hN.out) | (with_reducible first | apply Has.alloc | apply Has.drewN | apply Has.drew) | (with_reducible refine Has.far ?_ (by dsimp only; omega) _))) hb); have nhP := Aside0.mk (show Has w2 (wr.heap.size) (pC X Y) 24 from Has.below (by repeat (first | (with_reducible exact hP.out) | (with_reducible first | apply Has.alloc | apply Has.drewN | apply Has.drew) | (with_reducible refine Has.far ?_ (by dsimp only; omega) _))) hb); have nhC := Aside0.mk (show Has w2 (w1.heap.size) (mC c0 c1 c2 c3 c4 c5) 22 from Has.below (by repeat (first | (with_reducible exact hC.out) | (with_reducible first | apply Has.alloc | apply Has.drewN | apply Has.drew) | (with_reducible refine Has.far ?_ (by dsimp only; omega) _))) hb); have nHB := Aside0.mk (below_step (by repeat (first | (with_reducible first | exact HB.out | apply below_alloc | apply pw_below_drewN | apply below_drew1))) hb); clear hb cm0 cm1 cm2 cm3 cm4 cm5 lhM cn0 cn1 cn2 cn3 cn4 cn5 lhN cp0 cp1 lhP cc0 cc1 cc2 cc3 cc4 cc5 lhC; clear hM hN hP hC HB; have hM := nhM; clear nhM; have hN := nhN; clear nhN; have hP := nhP; clear nhP; have hC := nhC; clear nhC; have HB := nHB; clear nHB; have cm0 : w2.cell? ⟨w.heap.size + 1 + 1, 0, none⟩ = some (.int .i64 m0) := hM.out.cell 0; have cm1 : w2.cell? ⟨w.heap.size + 1 + 1, 1, none⟩ = some (.int .i64 m1) := hM.out.cell 1; have cm2 : w2.cell? ⟨w.heap.size + 1 + 1, 2, none⟩ = some (.int .i64 m2) := hM.out.cell 2; have cm3 : w2.cell? ⟨w.heap.size + 1 + 1, 3, none⟩ = some (.int .i64 m3) := hM.out.cell 3; have cm4 : w2.cell? ⟨w.heap.size + 1 + 1, 4, none⟩ = some (.int .i64 m4) := hM.out.cell 4; have cm5 : w2.cell? ⟨w.heap.size + 1 + 1, 5, none⟩ = some (.int .i64 m5) := hM.out.cell 5; have lhM := hM.out.lt; have cn0 : w2.cell? ⟨w.heap.size + 1 + 1 + 1, 0, none⟩ = some (.int .i64 n0) := hN.out.cell 0; have cn1 : w2.cell? ⟨w.heap.size + 1 + 1 + 1, 1, none⟩ = some (.int .i64 n1) := hN.out.cell 1; have cn2 : w2.cell? ⟨w.heap.size + 1 + 1 + 1, 2, none⟩ = some (.int .i64 n2) := hN.out.cell 2; have cn3 : w2.cell? ⟨w.heap.size + 1 + 1 + 1, 3, none⟩ = some (.int .i64 n3) := hN.out.cell 3; have cn4 : w2.cell? ⟨w.heap.size + 1 + 1 + 1, 4, none⟩ = some (.int .i64 n4) := hN.out.cell 4; have cn5 : w2.cell? ⟨w.heap.size + 1 + 1 + 1, 5, none⟩ = some (.int .i64 n5) := hN.out.cell 5; have lhN := hN.out.lt; have cp0 : w2.cell? ⟨wr.heap.size, 0, none⟩ = some (.int .i64 X) := hP.out.cell 0; have cp1 : w2.cell? ⟨wr.heap.size, 1, none⟩ = some (.int .i64 Y) := hP.out.cell 1; have lhP := hP.out.lt; have cc0 : w2.cell? ⟨w1.heap.size, 0, none⟩ = some (.int .i64 c0) := hC.out.cell 0; have cc1 : w2.cell? ⟨w1.heap.size, 1, none⟩ = some (.int .i64 c1) := hC.out.cell 1; have cc2 : w2.cell? ⟨w1.heap.size, 2, none⟩ = some (.int .i64 c2) := hC.out.cell 2; have cc3 : w2.cell? ⟨w1.heap.size, 3, none⟩ = some (.int .i64 c3) := hC.out.cell 3; have cc4 : w2.cell? ⟨w1.heap.size, 4, none⟩ = some (.int .i64 c4) := hC.out.cell 4; have cc5 : w2.cell? ⟨w1.heap.size, 5, none⟩ = some (.int .i64 c5) := hC.out.cell 5; have lhC := hC.out.lt; skip))
      have xhM := lhM
      have xhN := lhN
      have xhP := lhP
      have xhC := lhC
      have xw := HB.out.size
      have nhM := Aside0.mk (show Has (w2.alloc (.cells (pC q0 q1) 24)) (w.heap.size + 1 + 1) (mC m0 m1 m2 m3 m4 m5) 22 from Has.alloc hM.out _)
      have nhN := Aside0.mk (show Has (w2.alloc (.cells (pC q0 q1) 24)) (w.heap.size + 1 + 1 + 1) (mC n0 n1 n2 n3 n4 n5) 22 from Has.alloc hN.out _)
      have nhP := Aside0.mk (show Has (w2.alloc (.cells (pC q0 q1) 24)) (wr.heap.size) (pC X Y) 24 from Has.alloc hP.out _)
      have nhC := Aside0.mk (show Has (w2.alloc (.cells (pC q0 q1) 24)) (w1.heap.size) (mC c0 c1 c2 c3 c4 c5) 22 from Has.alloc hC.out _)
      have nHB := Aside0.mk (below_alloc HB.out (.cells (pC q0 q1) 24))
      have N0 := Aside0.mk (Has.new w2 (pC q0 q1) 24 rfl)
      clear cm0 cm1 cm2 cm3 cm4 cm5 lhM cn0 cn1 cn2 cn3 cn4 cn5 lhN cp0 cp1 lhP cc0 cc1 cc2 cc3 cc4 cc5 lhC
      clear hM hN hP hC HB
      have hM := nhM
      clear nhM
      have hN := nhN
      clear nhN
      have hP := nhP
      clear nhP
      have hC := nhC
      clear nhC
      have HB := nHB
      clear nHB
      have hQ := N0
      clear N0
      generalize w2.alloc (.cells (pC q0 q1) 24) = W2 at *
      have cm0 : W2.cell? ⟨w.heap.size + 1 + 1, 0, none⟩ = some (.int .i64 m0) := hM.out.cell 0
      have cm1 : W2.cell? ⟨w.heap.size + 1 + 1, 1, none⟩ = some (.int .i64 m1) := hM.out.cell 1
      have cm2 : W2.cell? ⟨w.heap.size + 1 + 1, 2, none⟩ = some (.int .i64 m2) := hM.out.cell 2
      have cm3 : W2.cell? ⟨w.heap.size + 1 + 1, 3, none⟩ = some (.int .i64 m3) := hM.out.cell 3
      have cm4 : W2.cell? ⟨w.heap.size + 1 + 1, 4, none⟩ = some (.int .i64 m4) := hM.out.cell 4
      have cm5 : W2.cell? ⟨w.heap.size + 1 + 1, 5, none⟩ = some (.int .i64 m5) := hM.out.cell 5
      have lhM := hM.out.lt
      have cn0 : W2.cell? ⟨w.heap.size + 1 + 1 + 1, 0, none⟩ = some (.int .i64 n0) := hN.out.cell 0
      have cn1 : W2.cell? ⟨w.heap.size + 1 + 1 + 1, 1, none⟩ = some (.int .i64 n1) := hN.out.cell 1
      have cn2 : W2.cell? ⟨w.heap.size + 1 + 1 + 1, 2, none⟩ = some (.int .i64 n2) := hN.out.cell 2
      have cn3 : W2.cell? ⟨w.heap.size + 1 + 1 + 1, 3, none⟩ = some (.int .i64 n3) := hN.out.cell 3
      have cn4 : W2.cell? ⟨w.heap.size + 1 + 1 + 1, 4, none⟩ = some (.int .i64 n4) := hN.out.cell 4
      have cn5 : W2.cell? ⟨w.heap.size + 1 + 1 + 1, 5, none⟩ = some (.int .i64 n5) := hN.out.cell 5
      have lhN := hN.out.lt
      have cp0 : W2.cell? ⟨wr.heap.size, 0, none⟩ = some (.int .i64 X) := hP.out.cell 0
      have cp1 : W2.cell? ⟨wr.heap.size, 1, none⟩ = some (.int .i64 Y) := hP.out.cell 1
      have lhP := hP.out.lt
      have cc0 : W2.cell? ⟨w1.heap.size, 0, none⟩ = some (.int .i64 c0) := hC.out.cell 0
      have cc1 : W2.cell? ⟨w1.heap.size, 1, none⟩ = some (.int .i64 c1) := hC.out.cell 1
      have cc2 : W2.cell? ⟨w1.heap.size, 2, none⟩ = some (.int .i64 c2) := hC.out.cell 2
      have cc3 : W2.cell? ⟨w1.heap.size, 3, none⟩ = some (.int .i64 c3) := hC.out.cell 3
      have cc4 : W2.cell? ⟨w1.heap.size, 4, none⟩ = some (.int .i64 c4) := hC.out.cell 4
      have cc5 : W2.cell? ⟨w1.heap.size, 5, none⟩ = some (.int .i64 c5) := hC.out.cell 5
      have lhC := hC.out.lt
      have cq0 : W2.cell? ⟨w2.heap.size, 0, none⟩ = some (.int .i64 q0) := hQ.out.cell 0
      have fcq0 : W2.frozen? ⟨w2.heap.size, 0, none⟩ = false := hQ.out.free 0
      have cq1 : W2.cell? ⟨w2.heap.size, 1, none⟩ = some (.int .i64 q1) := hQ.out.cell 1
      have fcq1 : W2.frozen? ⟨w2.heap.size, 1, none⟩ = false := hQ.out.free 1
      have lhQ := hQ.out.lt
      go_upto_region 11 with (go_at_call 8; ((with_reducible refine (cApply _ _ _ _ _ _ _ _ _ ).mono ?_); rintro e w3 ⟨rfl, hb⟩; rw [HQ2.out]; have nhM := Aside0.mk (show Has w3 (w.heap.size + 1 + 1) (mC m0 m1 m2 m3 m4 m5) 22 from Has.below (by repeat (first | (with_reducible exact hM.out) | (with_reducible first | apply Has.alloc | apply Has.drewN | apply Has.drew) | (with_reducible refine Has.far ?_ (by dsimp only; omega) _))) hb); have nhN := Aside0.mk (show Has w3 (w.heap.size + 1 + 1 + 1) (mC n0 n1 n2 n3 n4 n5) 22 from Has.below (by repeat (first | (with_reducible exact hN.out) | (with_reducible first | apply Has.alloc | apply Has.drewN | apply Has.drew) | (with_reducible refine Has.far ?_ (by dsimp only; omega) _))) hb); have nhP := Aside0.mk (show Has w3 (wr.heap.size) (pC X Y) 24 from Has.below (by repeat (first | (with_reducible exact hP.out) | (with_reducible first | apply Has.alloc | apply Has.drewN | apply Has.drew) | (with_reducible refine Has.far ?_ (by dsimp only; omega) _))) hb); have nhC := Aside0.mk (show Has w3 (w1.heap.size) (mC c0 c1 c2 c3 c4 c5) 22 from Has.below (by repeat (first | (with_reducible exact hC.out) | (with_reducible first | apply Has.alloc | apply Has.drewN | apply Has.drew) | (with_reducible refine Has.far ?_ (by dsimp only; omega) _))) hb); have nhQ := Aside0.mk (show Has w3 (w2.heap.size) (pC q0 q1) 24 from Has.below (by repeat (first | (with_reducible exact hQ.out) | (with_reducible first | apply Has.alloc | apply Has.drewN | apply Has.drew) | (with_reducible refine Has.far ?_ (by dsimp only; omega) _))) hb); have nHB := Aside0.mk (below_step (by repeat (first | (with_reducible first | exact HB.out | apply below_alloc | apply pw_below_drewN | apply below_drew1))) hb); clear hb cm0 cm1 cm2 cm3 cm4 cm5 lhM cn0 cn1 cn2 cn3 cn4 cn5 lhN cp0 cp1 lhP cc0 cc1 cc2 cc3 cc4 cc5 lhC cq0 fcq0 cq1 fcq1 lhQ; clear hM hN hP hC hQ HB; have hM := nhM; clear nhM; have hN := nhN; clear nhN; have hP := nhP; clear nhP; have hC := nhC; clear nhC; have hQ := nhQ; clear nhQ; have HB := nHB; clear nHB; have cm0 : w3.cell? ⟨w.heap.size + 1 + 1, 0, none⟩ = some (.int .i64 m0) := hM.out.cell 0; have cm1 : w3.cell? ⟨w.heap.size + 1 + 1, 1, none⟩ = some (.int .i64 m1) := hM.out.cell 1; have cm2 : w3.cell? ⟨w.heap.size + 1 + 1, 2, none⟩ = some (.int .i64 m2) := hM.out.cell 2; have cm3 : w3.cell? ⟨w.heap.size + 1 + 1, 3, none⟩ = some (.int .i64 m3) := hM.out.cell 3; have cm4 : w3.cell? ⟨w.heap.size + 1 + 1, 4, none⟩ = some (.int .i64 m4) := hM.out.cell 4; have cm5 : w3.cell? ⟨w.heap.size + 1 + 1, 5, none⟩ = some (.int .i64 m5) := hM.out.cell 5; have lhM := hM.out.lt; have cn0 : w3.cell? ⟨w.heap.size + 1 + 1 + 1, 0, none⟩ = some (.int .i64 n0) := hN.out.cell 0; have cn1 : w3.cell? ⟨w.heap.size + 1 + 1 + 1, 1, none⟩ = some (.int .i64 n1) := hN.out.cell 1; have cn2 : w3.cell? ⟨w.heap.size + 1 + 1 + 1, 2, none⟩ = some (.int .i64 n2) := hN.out.cell 2; have cn3 : w3.cell? ⟨w.heap.size + 1 + 1 + 1, 3, none⟩ = some (.int .i64 n3) := hN.out.cell 3; have cn4 : w3.cell? ⟨w.heap.size + 1 + 1 + 1, 4, none⟩ = some (.int .i64 n4) := hN.out.cell 4; have cn5 : w3.cell? ⟨w.heap.size + 1 + 1 + 1, 5, none⟩ = some (.int .i64 n5) := hN.out.cell 5; have lhN := hN.out.lt; have cp0 : w3.cell? ⟨wr.heap.size, 0, none⟩ = some (.int .i64 X) := hP.out.cell 0; have cp1 : w3.cell? ⟨wr.heap.size, 1, none⟩ = some (.int .i64 Y) := hP.out.cell 1; have lhP := hP.out.lt; have cc0 : w3.cell? ⟨w1.heap.size, 0, none⟩ = some (.int .i64 c0) := hC.out.cell 0; have cc1 : w3.cell? ⟨w1.heap.size, 1, none⟩ = some (.int .i64 c1) := hC.out.cell 1; have cc2 : w3.cell? ⟨w1.heap.size, 2, none⟩ = some (.int .i64 c2) := hC.out.cell 2; have cc3 : w3.cell? ⟨w1.heap.size, 3, none⟩ = some (.int .i64 c3) := hC.out.cell 3; have cc4 : w3.cell? ⟨w1.heap.size, 4, none⟩ = some (.int .i64 c4) := hC.out.cell 4; have cc5 : w3.cell? ⟨w1.heap.size, 5, none⟩ = some (.int .i64 c5) := hC.out.cell 5; have lhC := hC.out.lt; have cq0 : w3.cell? ⟨w2.heap.size, 0, none⟩ = some (.int .i64 q0) := hQ.out.cell 0; have fcq0 : w3.frozen? ⟨w2.heap.size, 0, none⟩ = false := hQ.out.free 0; have cq1 : w3.cell? ⟨w2.heap.size, 1, none⟩ = some (.int .i64 q1) := hQ.out.cell 1; have fcq1 : w3.frozen? ⟨w2.heap.size, 1, none⟩ = false := hQ.out.free 1; have lhQ := hQ.out.lt; skip))
      have nhM := Aside0.mk (show Has ((w3.setCell ⟨w2.heap.size, 0, none⟩ (.int .i64 r0)).setCell ⟨w2.heap.size, 1, none⟩ (.int .i64 r1)) (w.heap.size + 1 + 1) (mC m0 m1 m2 m3 m4 m5) 22 from Has.far (Has.far hM.out (p := ⟨w2.heap.size, 0, none⟩) (by dsimp only; omega) (.int .i64 r0)) (p := ⟨w2.heap.size, 1, none⟩) (by dsimp only; omega) (.int .i64 r1))
      have nhN := Aside0.mk (show Has ((w3.setCell ⟨w2.heap.size, 0, none⟩ (.int .i64 r0)).setCell ⟨w2.heap.size, 1, none⟩ (.int .i64 r1)) (w.heap.size + 1 + 1 + 1) (mC n0 n1 n2 n3 n4 n5) 22 from Has.far (Has.far hN.out (p := ⟨w2.heap.size, 0, none⟩) (by dsimp only; omega) (.int .i64 r0)) (p := ⟨w2.heap.size, 1, none⟩) (by dsimp only; omega) (.int .i64 r1))
      have nhP := Aside0.mk (show Has ((w3.setCell ⟨w2.heap.size, 0, none⟩ (.int .i64 r0)).setCell ⟨w2.heap.size, 1, none⟩ (.int .i64 r1)) (wr.heap.size) (pC X Y) 24 from Has.far (Has.far hP.out (p := ⟨w2.heap.size, 0, none⟩) (by dsimp only; omega) (.int .i64 r0)) (p := ⟨w2.heap.size, 1, none⟩) (by dsimp only; omega) (.int .i64 r1))
      have nhC := Aside0.mk (show Has ((w3.setCell ⟨w2.heap.size, 0, none⟩ (.int .i64 r0)).setCell ⟨w2.heap.size, 1, none⟩ (.int .i64 r1)) (w1.heap.size) (mC c0 c1 c2 c3 c4 c5) 22 from Has.far (Has.far hC.out (p := ⟨w2.heap.size, 0, none⟩) (by dsimp only; omega) (.int .i64 r0)) (p := ⟨w2.heap.size, 1, none⟩) (by dsimp only; omega) (.int .i64 r1))
      have nhQ := Aside0.mk (show Has ((w3.setCell ⟨w2.heap.size, 0, none⟩ (.int .i64 r0)).setCell ⟨w2.heap.size, 1, none⟩ (.int .i64 r1)) (w2.heap.size) (pC r0 r1) 24 from Has.set (Has.set hQ.out 0 (.int .i64 r0)) 1 (.int .i64 r1))
      have nHB := Aside0.mk (below_set (g := w2.heap.size) (j := 1) (v := .int .i64 r1) (below_set (g := w2.heap.size) (j := 0) (v := .int .i64 r0) HB.out (by omega)) (by omega))
      clear cm0 cm1 cm2 cm3 cm4 cm5 lhM cn0 cn1 cn2 cn3 cn4 cn5 lhN cp0 cp1 lhP cc0 cc1 cc2 cc3 cc4 cc5 lhC cq0 fcq0 cq1 fcq1 lhQ
      clear hM hN hP hC hQ HB
      have hM := nhM
      clear nhM
      have hN := nhN
      clear nhN
      have hP := nhP
      clear nhP
      have hC := nhC
      clear nhC
      have hQ := nhQ
      clear nhQ
      have HB := nHB
      clear nHB
      generalize (w3.setCell ⟨w2.heap.size, 0, none⟩ (.int .i64 r0)).setCell ⟨w2.heap.size, 1, none⟩ (.int .i64 r1) = W3 at *
      have cm0 : W3.cell? ⟨w.heap.size + 1 + 1, 0, none⟩ = some (.int .i64 m0) := hM.out.cell 0
      have cm1 : W3.cell? ⟨w.heap.size + 1 + 1, 1, none⟩ = some (.int .i64 m1) := hM.out.cell 1
      have cm2 : W3.cell? ⟨w.heap.size + 1 + 1, 2, none⟩ = some (.int .i64 m2) := hM.out.cell 2
      have cm3 : W3.cell? ⟨w.heap.size + 1 + 1, 3, none⟩ = some (.int .i64 m3) := hM.out.cell 3
      have cm4 : W3.cell? ⟨w.heap.size + 1 + 1, 4, none⟩ = some (.int .i64 m4) := hM.out.cell 4
      have cm5 : W3.cell? ⟨w.heap.size + 1 + 1, 5, none⟩ = some (.int .i64 m5) := hM.out.cell 5
      have lhM := hM.out.lt
      have cn0 : W3.cell? ⟨w.heap.size + 1 + 1 + 1, 0, none⟩ = some (.int .i64 n0) := hN.out.cell 0
      have cn1 : W3.cell? ⟨w.heap.size + 1 + 1 + 1, 1, none⟩ = some (.int .i64 n1) := hN.out.cell 1
      have cn2 : W3.cell? ⟨w.heap.size + 1 + 1 + 1, 2, none⟩ = some (.int .i64 n2) := hN.out.cell 2
      have cn3 : W3.cell? ⟨w.heap.size + 1 + 1 + 1, 3, none⟩ = some (.int .i64 n3) := hN.out.cell 3
      have cn4 : W3.cell? ⟨w.heap.size + 1 + 1 + 1, 4, none⟩ = some (.int .i64 n4) := hN.out.cell 4
      have cn5 : W3.cell? ⟨w.heap.size + 1 + 1 + 1, 5, none⟩ = some (.int .i64 n5) := hN.out.cell 5
      have lhN := hN.out.lt
      have cp0 : W3.cell? ⟨wr.heap.size, 0, none⟩ = some (.int .i64 X) := hP.out.cell 0
      have cp1 : W3.cell? ⟨wr.heap.size, 1, none⟩ = some (.int .i64 Y) := hP.out.cell 1
      have lhP := hP.out.lt
      have cc0 : W3.cell? ⟨w1.heap.size, 0, none⟩ = some (.int .i64 c0) := hC.out.cell 0
      have cc1 : W3.cell? ⟨w1.heap.size, 1, none⟩ = some (.int .i64 c1) := hC.out.cell 1
      have cc2 : W3.cell? ⟨w1.heap.size, 2, none⟩ = some (.int .i64 c2) := hC.out.cell 2
      have cc3 : W3.cell? ⟨w1.heap.size, 3, none⟩ = some (.int .i64 c3) := hC.out.cell 3
      have cc4 : W3.cell? ⟨w1.heap.size, 4, none⟩ = some (.int .i64 c4) := hC.out.cell 4
      have cc5 : W3.cell? ⟨w1.heap.size, 5, none⟩ = some (.int .i64 c5) := hC.out.cell 5
      have lhC := hC.out.lt
      have cq0 : W3.cell? ⟨w2.heap.size, 0, none⟩ = some (.int .i64 r0) := hQ.out.cell 0
      have cq1 : W3.cell? ⟨w2.heap.size, 1, none⟩ = some (.int .i64 r1) := hQ.out.cell 1
      have lhQ := hQ.out.lt
      go_upto_region 12 with (go_at_call 8; ((with_reducible refine (cApply _ _ _ _ _ _ _ _ _ ).mono ?_); rintro e w4 ⟨rfl, hb⟩; rw [HR.out]; have nhM := Aside0.mk (show Has w4 (w.heap.size + 1 + 1) (mC m0 m1 m2 m3 m4 m5) 22 from Has.below (by repeat (first | (with_reducible exact hM.out) | (with_reducible first | apply Has.alloc | apply Has.drewN | apply Has.drew) | (with_reducible refine Has.far ?_ (by dsimp only; omega) _))) hb); have nhN := Aside0.mk (show Has w4 (w.heap.size + 1 + 1 + 1) (mC n0 n1 n2 n3 n4 n5) 22 from Has.below (by repeat (first | (with_reducible exact hN.out) | (with_reducible first | apply Has.alloc | apply Has.drewN | apply Has.drew) | (with_reducible refine Has.far ?_ (by dsimp only; omega) _))) hb); have nhP := Aside0.mk (show Has w4 (wr.heap.size) (pC X Y) 24 from Has.below (by repeat (first | (with_reducible exact hP.out) | (with_reducible first | apply Has.alloc | apply Has.drewN | apply Has.drew) | (with_reducible refine Has.far ?_ (by dsimp only; omega) _))) hb); have nhC := Aside0.mk (show Has w4 (w1.heap.size) (mC c0 c1 c2 c3 c4 c5) 22 from Has.below (by repeat (first | (with_reducible exact hC.out) | (with_reducible first | apply Has.alloc | apply Has.drewN | apply Has.drew) | (with_reducible refine Has.far ?_ (by dsimp only; omega) _))) hb); have nhQ := Aside0.mk (show Has w4 (w2.heap.size) (pC r0 r1) 24 from Has.below (by repeat (first | (with_reducible exact hQ.out) | (with_reducible first | apply Has.alloc | apply Has.drewN | apply Has.drew) | (with_reducible refine Has.far ?_ (by dsimp only; omega) _))) hb); have nHB := Aside0.mk (below_step (by repeat (first | (with_reducible first | exact HB.out | apply below_alloc | apply pw_below_drewN | apply below_drew1))) hb); clear hb cm0 cm1 cm2 cm3 cm4 cm5 lhM cn0 cn1 cn2 cn3 cn4 cn5 lhN cp0 cp1 lhP cc0 cc1 cc2 cc3 cc4 cc5 lhC cq0 cq1 lhQ; clear hM hN hP hC hQ HB; have hM := nhM; clear nhM; have hN := nhN; clear nhN; have hP := nhP; clear nhP; have hC := nhC; clear nhC; have hQ := nhQ; clear nhQ; have HB := nHB; clear nHB; have cm0 : w4.cell? ⟨w.heap.size + 1 + 1, 0, none⟩ = some (.int .i64 m0) := hM.out.cell 0; have cm1 : w4.cell? ⟨w.heap.size + 1 + 1, 1, none⟩ = some (.int .i64 m1) := hM.out.cell 1; have cm2 : w4.cell? ⟨w.heap.size + 1 + 1, 2, none⟩ = some (.int .i64 m2) := hM.out.cell 2; have cm3 : w4.cell? ⟨w.heap.size + 1 + 1, 3, none⟩ = some (.int .i64 m3) := hM.out.cell 3; have cm4 : w4.cell? ⟨w.heap.size + 1 + 1, 4, none⟩ = some (.int .i64 m4) := hM.out.cell 4; have cm5 : w4.cell? ⟨w.heap.size + 1 + 1, 5, none⟩ = some (.int .i64 m5) := hM.out.cell 5; have lhM := hM.out.lt; have cn0 : w4.cell? ⟨w.heap.size + 1 + 1 + 1, 0, none⟩ = some (.int .i64 n0) := hN.out.cell 0; have cn1 : w4.cell? ⟨w.heap.size + 1 + 1 + 1, 1, none⟩ = some (.int .i64 n1) := hN.out.cell 1; have cn2 : w4.cell? ⟨w.heap.size + 1 + 1 + 1, 2, none⟩ = some (.int .i64 n2) := hN.out.cell 2; have cn3 : w4.cell? ⟨w.heap.size + 1 + 1 + 1, 3, none⟩ = some (.int .i64 n3) := hN.out.cell 3; have cn4 : w4.cell? ⟨w.heap.size + 1 + 1 + 1, 4, none⟩ = some (.int .i64 n4) := hN.out.cell 4; have cn5 : w4.cell? ⟨w.heap.size + 1 + 1 + 1, 5, none⟩ = some (.int .i64 n5) := hN.out.cell 5; have lhN := hN.out.lt; have cp0 : w4.cell? ⟨wr.heap.size, 0, none⟩ = some (.int .i64 X) := hP.out.cell 0; have cp1 : w4.cell? ⟨wr.heap.size, 1, none⟩ = some (.int .i64 Y) := hP.out.cell 1; have lhP := hP.out.lt; have cc0 : w4.cell? ⟨w1.heap.size, 0, none⟩ = some (.int .i64 c0) := hC.out.cell 0; have cc1 : w4.cell? ⟨w1.heap.size, 1, none⟩ = some (.int .i64 c1) := hC.out.cell 1; have cc2 : w4.cell? ⟨w1.heap.size, 2, none⟩ = some (.int .i64 c2) := hC.out.cell 2; have cc3 : w4.cell? ⟨w1.heap.size, 3, none⟩ = some (.int .i64 c3) := hC.out.cell 3; have cc4 : w4.cell? ⟨w1.heap.size, 4, none⟩ = some (.int .i64 c4) := hC.out.cell 4; have cc5 : w4.cell? ⟨w1.heap.size, 5, none⟩ = some (.int .i64 c5) := hC.out.cell 5; have lhC := hC.out.lt; have cq0 : w4.cell? ⟨w2.heap.size, 0, none⟩ = some (.int .i64 r0) := hQ.out.cell 0; have cq1 : w4.cell? ⟨w2.heap.size, 1, none⟩ = some (.int .i64 r1) := hQ.out.cell 1; have lhQ := hQ.out.lt; skip))
      have nhM := Aside0.mk (show Has (w4.alloc (.cells (pC r0 r1) 24)) (w.heap.size + 1 + 1) (mC m0 m1 m2 m3 m4 m5) 22 from Has.alloc hM.out _)
      have nhN := Aside0.mk (show Has (w4.alloc (.cells (pC r0 r1) 24)) (w.heap.size + 1 + 1 + 1) (mC n0 n1 n2 n3 n4 n5) 22 from Has.alloc hN.out _)
      have nhP := Aside0.mk (show Has (w4.alloc (.cells (pC r0 r1) 24)) (wr.heap.size) (pC X Y) 24 from Has.alloc hP.out _)
      have nhC := Aside0.mk (show Has (w4.alloc (.cells (pC r0 r1) 24)) (w1.heap.size) (mC c0 c1 c2 c3 c4 c5) 22 from Has.alloc hC.out _)
      have nhQ := Aside0.mk (show Has (w4.alloc (.cells (pC r0 r1) 24)) (w2.heap.size) (pC r0 r1) 24 from Has.alloc hQ.out _)
      have nHB := Aside0.mk (below_alloc HB.out (.cells (pC r0 r1) 24))
      have N0 := Aside0.mk (Has.new w4 (pC r0 r1) 24 rfl)
      clear cm0 cm1 cm2 cm3 cm4 cm5 lhM cn0 cn1 cn2 cn3 cn4 cn5 lhN cp0 cp1 lhP cc0 cc1 cc2 cc3 cc4 cc5 lhC cq0 cq1 lhQ
      clear hM hN hP hC hQ HB
      have hM := nhM
      clear nhM
      have hN := nhN
      clear nhN
      have hP := nhP
      clear nhP
      have hC := nhC
      clear nhC
      have hQ := nhQ
      clear nhQ
      have HB := nHB
      clear nHB
      have hR := N0
      clear N0
      generalize w4.alloc (.cells (pC r0 r1) 24) = W4 at *
      have cm0 : W4.cell? ⟨w.heap.size + 1 + 1, 0, none⟩ = some (.int .i64 m0) := hM.out.cell 0
      have cm1 : W4.cell? ⟨w.heap.size + 1 + 1, 1, none⟩ = some (.int .i64 m1) := hM.out.cell 1
      have cm2 : W4.cell? ⟨w.heap.size + 1 + 1, 2, none⟩ = some (.int .i64 m2) := hM.out.cell 2
      have cm3 : W4.cell? ⟨w.heap.size + 1 + 1, 3, none⟩ = some (.int .i64 m3) := hM.out.cell 3
      have cm4 : W4.cell? ⟨w.heap.size + 1 + 1, 4, none⟩ = some (.int .i64 m4) := hM.out.cell 4
      have cm5 : W4.cell? ⟨w.heap.size + 1 + 1, 5, none⟩ = some (.int .i64 m5) := hM.out.cell 5
      have lhM := hM.out.lt
      have cn0 : W4.cell? ⟨w.heap.size + 1 + 1 + 1, 0, none⟩ = some (.int .i64 n0) := hN.out.cell 0
      have cn1 : W4.cell? ⟨w.heap.size + 1 + 1 + 1, 1, none⟩ = some (.int .i64 n1) := hN.out.cell 1
      have cn2 : W4.cell? ⟨w.heap.size + 1 + 1 + 1, 2, none⟩ = some (.int .i64 n2) := hN.out.cell 2
      have cn3 : W4.cell? ⟨w.heap.size + 1 + 1 + 1, 3, none⟩ = some (.int .i64 n3) := hN.out.cell 3
      have cn4 : W4.cell? ⟨w.heap.size + 1 + 1 + 1, 4, none⟩ = some (.int .i64 n4) := hN.out.cell 4
      have cn5 : W4.cell? ⟨w.heap.size + 1 + 1 + 1, 5, none⟩ = some (.int .i64 n5) := hN.out.cell 5
      have lhN := hN.out.lt
      have cp0 : W4.cell? ⟨wr.heap.size, 0, none⟩ = some (.int .i64 X) := hP.out.cell 0
      have cp1 : W4.cell? ⟨wr.heap.size, 1, none⟩ = some (.int .i64 Y) := hP.out.cell 1
      have lhP := hP.out.lt
      have cc0 : W4.cell? ⟨w1.heap.size, 0, none⟩ = some (.int .i64 c0) := hC.out.cell 0
      have cc1 : W4.cell? ⟨w1.heap.size, 1, none⟩ = some (.int .i64 c1) := hC.out.cell 1
      have cc2 : W4.cell? ⟨w1.heap.size, 2, none⟩ = some (.int .i64 c2) := hC.out.cell 2
      have cc3 : W4.cell? ⟨w1.heap.size, 3, none⟩ = some (.int .i64 c3) := hC.out.cell 3
      have cc4 : W4.cell? ⟨w1.heap.size, 4, none⟩ = some (.int .i64 c4) := hC.out.cell 4
      have cc5 : W4.cell? ⟨w1.heap.size, 5, none⟩ = some (.int .i64 c5) := hC.out.cell 5
      have lhC := hC.out.lt
      have cq0 : W4.cell? ⟨w2.heap.size, 0, none⟩ = some (.int .i64 r0) := hQ.out.cell 0
      have cq1 : W4.cell? ⟨w2.heap.size, 1, none⟩ = some (.int .i64 r1) := hQ.out.cell 1
      have lhQ := hQ.out.lt
      have cr0 : W4.cell? ⟨w4.heap.size, 0, none⟩ = some (.int .i64 r0) := hR.out.cell 0
      have cr1 : W4.cell? ⟨w4.heap.size, 1, none⟩ = some (.int .i64 r1) := hR.out.cell 1
      have lhR := hR.out.lt
      have g1 := fun w => neqP_self r0 r1 w
      have g2 := fun w => eqP_self X Y w
      go_upto_region 14 with (go_at_call 12; ((with_reducible refine (cAnswers _).mono ?_); rintro e w5 ⟨rfl, hb⟩; have nhM := Aside0.mk (show Has w5 (w.heap.size + 1 + 1) (mC m0 m1 m2 m3 m4 m5) 22 from Has.below (by repeat (first | (with_reducible exact hM.out) | (with_reducible first | apply Has.alloc | apply Has.drewN | apply Has.drew) | (with_reducible refine Has.far ?_ (by dsimp only; omega) _))) hb); have nhN := Aside0.mk (show Has w5 (w.heap.size + 1 + 1 + 1) (mC n0 n1 n2 n3 n4 n5) 22 from Has.below (by repeat (first | (with_reducible exact hN.out) | (with_reducible first | apply Has.alloc | apply Has.drewN | apply Has.drew) | (with_reducible refine Has.far ?_ (by dsimp only; omega) _))) hb); have nhP := Aside0.mk (show Has w5 (wr.heap.size) (pC X Y) 24 from Has.below (by repeat (first | (with_reducible exact hP.out) | (with_reducible first | apply Has.alloc | apply Has.drewN | apply Has.drew) | (with_reducible refine Has.far ?_ (by dsimp only; omega) _))) hb); have nhC := Aside0.mk (show Has w5 (w1.heap.size) (mC c0 c1 c2 c3 c4 c5) 22 from Has.below (by repeat (first | (with_reducible exact hC.out) | (with_reducible first | apply Has.alloc | apply Has.drewN | apply Has.drew) | (with_reducible refine Has.far ?_ (by dsimp only; omega) _))) hb); have nhQ := Aside0.mk (show Has w5 (w2.heap.size) (pC r0 r1) 24 from Has.below (by repeat (first | (with_reducible exact hQ.out) | (with_reducible first | apply Has.alloc | apply Has.drewN | apply Has.drew) | (with_reducible refine Has.far ?_ (by dsimp only; omega) _))) hb); have nhR := Aside0.mk (show Has w5 (w4.heap.size) (pC r0 r1) 24 from Has.below (by repeat (first | (with_reducible exact hR.out) | (with_reducible first | apply Has.alloc | apply Has.drewN | apply Has.drew) | (with_reducible refine Has.far ?_ (by dsimp only; omega) _))) hb); have nHB := Aside0.mk (below_step (by repeat (first | (with_reducible first | exact HB.out | apply below_alloc | apply pw_below_drewN | apply below_drew1))) hb); clear hb cm0 cm1 cm2 cm3 cm4 cm5 lhM cn0 cn1 cn2 cn3 cn4 cn5 lhN cp0 cp1 lhP cc0 cc1 cc2 cc3 cc4 cc5 lhC cq0 cq1 lhQ cr0 cr1 lhR; clear hM hN hP hC hQ hR HB; have hM := nhM; clear nhM; have hN := nhN; clear nhN; have hP := nhP; clear nhP; have hC := nhC; clear nhC; have hQ := nhQ; clear nhQ; have hR := nhR; clear nhR; have HB := nHB; clear nHB; have cm0 : w5.cell? ⟨w.heap.size + 1 + 1, 0, none⟩ = some (.int .i64 m0) := hM.out.cell 0; have cm1 : w5.cell? ⟨w.heap.size + 1 + 1, 1, none⟩ = some (.int .i64 m1) := hM.out.cell 1; have cm2 : w5.cell? ⟨w.heap.size + 1 + 1, 2, none⟩ = some (.int .i64 m2) := hM.out.cell 2; have cm3 : w5.cell? ⟨w.heap.size + 1 + 1, 3, none⟩ = some (.int .i64 m3) := hM.out.cell 3; have cm4 : w5.cell? ⟨w.heap.size + 1 + 1, 4, none⟩ = some (.int .i64 m4) := hM.out.cell 4; have cm5 : w5.cell? ⟨w.heap.size + 1 + 1, 5, none⟩ = some (.int .i64 m5) := hM.out.cell 5; have lhM := hM.out.lt; have cn0 : w5.cell? ⟨w.heap.size + 1 + 1 + 1, 0, none⟩ = some (.int .i64 n0) := hN.out.cell 0; have cn1 : w5.cell? ⟨w.heap.size + 1 + 1 + 1, 1, none⟩ = some (.int .i64 n1) := hN.out.cell 1; have cn2 : w5.cell? ⟨w.heap.size + 1 + 1 + 1, 2, none⟩ = some (.int .i64 n2) := hN.out.cell 2; have cn3 : w5.cell? ⟨w.heap.size + 1 + 1 + 1, 3, none⟩ = some (.int .i64 n3) := hN.out.cell 3; have cn4 : w5.cell? ⟨w.heap.size + 1 + 1 + 1, 4, none⟩ = some (.int .i64 n4) := hN.out.cell 4; have cn5 : w5.cell? ⟨w.heap.size + 1 + 1 + 1, 5, none⟩ = some (.int .i64 n5) := hN.out.cell 5; have lhN := hN.out.lt; have cp0 : w5.cell? ⟨wr.heap.size, 0, none⟩ = some (.int .i64 X) := hP.out.cell 0; have cp1 : w5.cell? ⟨wr.heap.size, 1, none⟩ = some (.int .i64 Y) := hP.out.cell 1; have lhP := hP.out.lt; have cc0 : w5.cell? ⟨w1.heap.size, 0, none⟩ = some (.int .i64 c0) := hC.out.cell 0; have cc1 : w5.cell? ⟨w1.heap.size, 1, none⟩ = some (.int .i64 c1) := hC.out.cell 1; have cc2 : w5.cell? ⟨w1.heap.size, 2, none⟩ = some (.int .i64 c2) := hC.out.cell 2; have cc3 : w5.cell? ⟨w1.heap.size, 3, none⟩ = some (.int .i64 c3) := hC.out.cell 3; have cc4 : w5.cell? ⟨w1.heap.size, 4, none⟩ = some (.int .i64 c4) := hC.out.cell 4; have cc5 : w5.cell? ⟨w1.heap.size, 5, none⟩ = some (.int .i64 c5) := hC.out.cell 5; have lhC := hC.out.lt; have cq0 : w5.cell? ⟨w2.heap.size, 0, none⟩ = some (.int .i64 r0) := hQ.out.cell 0; have cq1 : w5.cell? ⟨w2.heap.size, 1, none⟩ = some (.int .i64 r1) := hQ.out.cell 1; have lhQ := hQ.out.lt; have cr0 : w5.cell? ⟨w4.heap.size, 0, none⟩ = some (.int .i64 r0) := hR.out.cell 0; have cr1 : w5.cell? ⟨w4.heap.size, 1, none⟩ = some (.int .i64 r1) := hR.out.cell 1; have lhR := hR.out.lt; skip))
      clear hN hC hQ hR cn0 cn1 cn2 cn3 cn4 cn5 cc0 cc1 cc2 cc3 cc4 cc5 cq0 cq1 cr0 cr1 lhN lhC lhQ lhR
      go_upto_region 16 with fail
      have nhM := Aside0.mk (show Has (w5.alloc (.cells (mC 65536 K 0 65536 m4 m5) 22)) (w.heap.size + 1 + 1) (mC m0 m1 m2 m3 m4 m5) 22 from Has.alloc hM.out _)
      have nhP := Aside0.mk (show Has (w5.alloc (.cells (mC 65536 K 0 65536 m4 m5) 22)) (wr.heap.size) (pC X Y) 24 from Has.alloc hP.out _)
      have nHB := Aside0.mk (below_alloc HB.out (.cells (mC 65536 K 0 65536 m4 m5) 22))
      have N0 := Aside0.mk (Has.new w5 (mC 65536 K 0 65536 m4 m5) 22 rfl)
      clear cm0 cm1 cm2 cm3 cm4 cm5 lhM cp0 cp1 lhP
      clear hM hP HB
      have hM := nhM
      clear nhM
      have hP := nhP
      clear nhP
      have HB := nHB
      clear nHB
      have hU := N0
      clear N0
      generalize w5.alloc (.cells (mC 65536 K 0 65536 m4 m5) 22) = W5 at *
      have cm0 : W5.cell? ⟨w.heap.size + 1 + 1, 0, none⟩ = some (.int .i64 m0) := hM.out.cell 0
      have cm1 : W5.cell? ⟨w.heap.size + 1 + 1, 1, none⟩ = some (.int .i64 m1) := hM.out.cell 1
      have cm2 : W5.cell? ⟨w.heap.size + 1 + 1, 2, none⟩ = some (.int .i64 m2) := hM.out.cell 2
      have cm3 : W5.cell? ⟨w.heap.size + 1 + 1, 3, none⟩ = some (.int .i64 m3) := hM.out.cell 3
      have cm4 : W5.cell? ⟨w.heap.size + 1 + 1, 4, none⟩ = some (.int .i64 m4) := hM.out.cell 4
      have cm5 : W5.cell? ⟨w.heap.size + 1 + 1, 5, none⟩ = some (.int .i64 m5) := hM.out.cell 5
      have lhM := hM.out.lt
      have cp0 : W5.cell? ⟨wr.heap.size, 0, none⟩ = some (.int .i64 X) := hP.out.cell 0
      have cp1 : W5.cell? ⟨wr.heap.size, 1, none⟩ = some (.int .i64 Y) := hP.out.cell 1
      have lhP := hP.out.lt
      have cu0 : W5.cell? ⟨w5.heap.size, 0, none⟩ = some (.int .i64 65536) := hU.out.cell 0
      have cu1 : W5.cell? ⟨w5.heap.size, 1, none⟩ = some (.int .i64 K) := hU.out.cell 1
      have cu2 : W5.cell? ⟨w5.heap.size, 2, none⟩ = some (.int .i64 0) := hU.out.cell 2
      have cu3 : W5.cell? ⟨w5.heap.size, 3, none⟩ = some (.int .i64 65536) := hU.out.cell 3
      have cu4 : W5.cell? ⟨w5.heap.size, 4, none⟩ = some (.int .i64 m4) := hU.out.cell 4
      have cu5 : W5.cell? ⟨w5.heap.size, 5, none⟩ = some (.int .i64 m5) := hU.out.cell 5
      have lhU := hU.out.lt
      go_upto_region 17 with (go_at_call 19; ((with_reducible refine (cInvert _ _ _ _ _ _ _ ).mono ?_); rintro e w6 ⟨rfl, hb⟩; rw [HI.out]; have nhM := Aside0.mk (show Has w6 (w.heap.size + 1 + 1) (mC m0 m1 m2 m3 m4 m5) 22 from Has.below (by repeat (first | (with_reducible exact hM.out) | (with_reducible first | apply Has.alloc | apply Has.drewN | apply Has.drew) | (with_reducible refine Has.far ?_ (by dsimp only; omega) _))) hb); have nhP := Aside0.mk (show Has w6 (wr.heap.size) (pC X Y) 24 from Has.below (by repeat (first | (with_reducible exact hP.out) | (with_reducible first | apply Has.alloc | apply Has.drewN | apply Has.drew) | (with_reducible refine Has.far ?_ (by dsimp only; omega) _))) hb); have nhU := Aside0.mk (show Has w6 (w5.heap.size) (mC 65536 K 0 65536 m4 m5) 22 from Has.below (by repeat (first | (with_reducible exact hU.out) | (with_reducible first | apply Has.alloc | apply Has.drewN | apply Has.drew) | (with_reducible refine Has.far ?_ (by dsimp only; omega) _))) hb); have nHB := Aside0.mk (below_step (by repeat (first | (with_reducible first | exact HB.out | apply below_alloc | apply pw_below_drewN | apply below_drew1))) hb); clear hb cm0 cm1 cm2 cm3 cm4 cm5 lhM cp0 cp1 lhP cu0 cu1 cu2 cu3 cu4 cu5 lhU; clear hM hP hU HB; have hM := nhM; clear nhM; have hP := nhP; clear nhP; have hU := nhU; clear nhU; have HB := nHB; clear nHB; have cm0 : w6.cell? ⟨w.heap.size + 1 + 1, 0, none⟩ = some (.int .i64 m0) := hM.out.cell 0; have cm1 : w6.cell? ⟨w.heap.size + 1 + 1, 1, none⟩ = some (.int .i64 m1) := hM.out.cell 1; have cm2 : w6.cell? ⟨w.heap.size + 1 + 1, 2, none⟩ = some (.int .i64 m2) := hM.out.cell 2; have cm3 : w6.cell? ⟨w.heap.size + 1 + 1, 3, none⟩ = some (.int .i64 m3) := hM.out.cell 3; have cm4 : w6.cell? ⟨w.heap.size + 1 + 1, 4, none⟩ = some (.int .i64 m4) := hM.out.cell 4; have cm5 : w6.cell? ⟨w.heap.size + 1 + 1, 5, none⟩ = some (.int .i64 m5) := hM.out.cell 5; have lhM := hM.out.lt; have cp0 : w6.cell? ⟨wr.heap.size, 0, none⟩ = some (.int .i64 X) := hP.out.cell 0; have cp1 : w6.cell? ⟨wr.heap.size, 1, none⟩ = some (.int .i64 Y) := hP.out.cell 1; have lhP := hP.out.lt; have cu0 : w6.cell? ⟨w5.heap.size, 0, none⟩ = some (.int .i64 65536) := hU.out.cell 0; have cu1 : w6.cell? ⟨w5.heap.size, 1, none⟩ = some (.int .i64 K) := hU.out.cell 1; have cu2 : w6.cell? ⟨w5.heap.size, 2, none⟩ = some (.int .i64 0) := hU.out.cell 2; have cu3 : w6.cell? ⟨w5.heap.size, 3, none⟩ = some (.int .i64 65536) := hU.out.cell 3; have cu4 : w6.cell? ⟨w5.heap.size, 4, none⟩ = some (.int .i64 m4) := hU.out.cell 4; have cu5 : w6.cell? ⟨w5.heap.size, 5, none⟩ = some (.int .i64 m5) := hU.out.cell 5; have lhU := hU.out.lt; skip))
      have nhM := Aside0.mk (show Has (w6.alloc (.cells (mC v0 v1 v2 v3 v4 v5) 22)) (w.heap.size + 1 + 1) (mC m0 m1 m2 m3 m4 m5) 22 from Has.alloc hM.out _)
      have nhP := Aside0.mk (show Has (w6.alloc (.cells (mC v0 v1 v2 v3 v4 v5) 22)) (wr.heap.size) (pC X Y) 24 from Has.alloc hP.out _)
      have nhU := Aside0.mk (show Has (w6.alloc (.cells (mC v0 v1 v2 v3 v4 v5) 22)) (w5.heap.size) (mC 65536 K 0 65536 m4 m5) 22 from Has.alloc hU.out _)
      have nHB := Aside0.mk (below_alloc HB.out (.cells (mC v0 v1 v2 v3 v4 v5) 22))
      have N0 := Aside0.mk (Has.new w6 (mC v0 v1 v2 v3 v4 v5) 22 rfl)
      clear cm0 cm1 cm2 cm3 cm4 cm5 lhM cp0 cp1 lhP cu0 cu1 cu2 cu3 cu4 cu5 lhU
      clear hM hP hU HB
      have hM := nhM
      clear nhM
      have hP := nhP
      clear nhP
      have hU := nhU
      clear nhU
      have HB := nHB
      clear nHB
      have hV := N0
      clear N0
      generalize w6.alloc (.cells (mC v0 v1 v2 v3 v4 v5) 22) = W6 at *
      have cm0 : W6.cell? ⟨w.heap.size + 1 + 1, 0, none⟩ = some (.int .i64 m0) := hM.out.cell 0
      have cm1 : W6.cell? ⟨w.heap.size + 1 + 1, 1, none⟩ = some (.int .i64 m1) := hM.out.cell 1
      have cm2 : W6.cell? ⟨w.heap.size + 1 + 1, 2, none⟩ = some (.int .i64 m2) := hM.out.cell 2
      have cm3 : W6.cell? ⟨w.heap.size + 1 + 1, 3, none⟩ = some (.int .i64 m3) := hM.out.cell 3
      have cm4 : W6.cell? ⟨w.heap.size + 1 + 1, 4, none⟩ = some (.int .i64 m4) := hM.out.cell 4
      have cm5 : W6.cell? ⟨w.heap.size + 1 + 1, 5, none⟩ = some (.int .i64 m5) := hM.out.cell 5
      have lhM := hM.out.lt
      have cp0 : W6.cell? ⟨wr.heap.size, 0, none⟩ = some (.int .i64 X) := hP.out.cell 0
      have cp1 : W6.cell? ⟨wr.heap.size, 1, none⟩ = some (.int .i64 Y) := hP.out.cell 1
      have lhP := hP.out.lt
      have cu0 : W6.cell? ⟨w5.heap.size, 0, none⟩ = some (.int .i64 65536) := hU.out.cell 0
      have cu1 : W6.cell? ⟨w5.heap.size, 1, none⟩ = some (.int .i64 K) := hU.out.cell 1
      have cu2 : W6.cell? ⟨w5.heap.size, 2, none⟩ = some (.int .i64 0) := hU.out.cell 2
      have cu3 : W6.cell? ⟨w5.heap.size, 3, none⟩ = some (.int .i64 65536) := hU.out.cell 3
      have cu4 : W6.cell? ⟨w5.heap.size, 4, none⟩ = some (.int .i64 m4) := hU.out.cell 4
      have cu5 : W6.cell? ⟨w5.heap.size, 5, none⟩ = some (.int .i64 m5) := hU.out.cell 5
      have lhU := hU.out.lt
      have cv0 : W6.cell? ⟨w6.heap.size, 0, none⟩ = some (.int .i64 v0) := hV.out.cell 0
      have cv1 : W6.cell? ⟨w6.heap.size, 1, none⟩ = some (.int .i64 v1) := hV.out.cell 1
      have cv2 : W6.cell? ⟨w6.heap.size, 2, none⟩ = some (.int .i64 v2) := hV.out.cell 2
      have cv3 : W6.cell? ⟨w6.heap.size, 3, none⟩ = some (.int .i64 v3) := hV.out.cell 3
      have cv4 : W6.cell? ⟨w6.heap.size, 4, none⟩ = some (.int .i64 v4) := hV.out.cell 4
      have cv5 : W6.cell? ⟨w6.heap.size, 5, none⟩ = some (.int .i64 v5) := hV.out.cell 5
      have lhV := hV.out.lt
      go_upto_region 18 with (go_at_call 8; ((with_reducible refine (cApply _ _ _ _ _ _ _ _ _ ).mono ?_); rintro e w7 ⟨rfl, hb⟩; rw [HT.out]; have nhM := Aside0.mk (show Has w7 (w.heap.size + 1 + 1) (mC m0 m1 m2 m3 m4 m5) 22 from Has.below (by repeat (first | (with_reducible exact hM.out) | (with_reducible first | apply Has.alloc | apply Has.drewN | apply Has.drew) | (with_reducible refine Has.far ?_ (by dsimp only; omega) _))) hb); have nhP := Aside0.mk (show Has w7 (wr.heap.size) (pC X Y) 24 from Has.below (by repeat (first | (with_reducible exact hP.out) | (with_reducible first | apply Has.alloc | apply Has.drewN | apply Has.drew) | (with_reducible refine Has.far ?_ (by dsimp only; omega) _))) hb); have nhU := Aside0.mk (show Has w7 (w5.heap.size) (mC 65536 K 0 65536 m4 m5) 22 from Has.below (by repeat (first | (with_reducible exact hU.out) | (with_reducible first | apply Has.alloc | apply Has.drewN | apply Has.drew) | (with_reducible refine Has.far ?_ (by dsimp only; omega) _))) hb); have nhV := Aside0.mk (show Has w7 (w6.heap.size) (mC v0 v1 v2 v3 v4 v5) 22 from Has.below (by repeat (first | (with_reducible exact hV.out) | (with_reducible first | apply Has.alloc | apply Has.drewN | apply Has.drew) | (with_reducible refine Has.far ?_ (by dsimp only; omega) _))) hb); have nHB := Aside0.mk (below_step (by repeat (first | (with_reducible first | exact HB.out | apply below_alloc | apply pw_below_drewN | apply below_drew1))) hb); clear hb cm0 cm1 cm2 cm3 cm4 cm5 lhM cp0 cp1 lhP cu0 cu1 cu2 cu3 cu4 cu5 lhU cv0 cv1 cv2 cv3 cv4 cv5 lhV; clear hM hP hU hV HB; have hM := nhM; clear nhM; have hP := nhP; clear nhP; have hU := nhU; clear nhU; have hV := nhV; clear nhV; have HB := nHB; clear nHB; have cm0 : w7.cell? ⟨w.heap.size + 1 + 1, 0, none⟩ = some (.int .i64 m0) := hM.out.cell 0; have cm1 : w7.cell? ⟨w.heap.size + 1 + 1, 1, none⟩ = some (.int .i64 m1) := hM.out.cell 1; have cm2 : w7.cell? ⟨w.heap.size + 1 + 1, 2, none⟩ = some (.int .i64 m2) := hM.out.cell 2; have cm3 : w7.cell? ⟨w.heap.size + 1 + 1, 3, none⟩ = some (.int .i64 m3) := hM.out.cell 3; have cm4 : w7.cell? ⟨w.heap.size + 1 + 1, 4, none⟩ = some (.int .i64 m4) := hM.out.cell 4; have cm5 : w7.cell? ⟨w.heap.size + 1 + 1, 5, none⟩ = some (.int .i64 m5) := hM.out.cell 5; have lhM := hM.out.lt; have cp0 : w7.cell? ⟨wr.heap.size, 0, none⟩ = some (.int .i64 X) := hP.out.cell 0; have cp1 : w7.cell? ⟨wr.heap.size, 1, none⟩ = some (.int .i64 Y) := hP.out.cell 1; have lhP := hP.out.lt; have cu0 : w7.cell? ⟨w5.heap.size, 0, none⟩ = some (.int .i64 65536) := hU.out.cell 0; have cu1 : w7.cell? ⟨w5.heap.size, 1, none⟩ = some (.int .i64 K) := hU.out.cell 1; have cu2 : w7.cell? ⟨w5.heap.size, 2, none⟩ = some (.int .i64 0) := hU.out.cell 2; have cu3 : w7.cell? ⟨w5.heap.size, 3, none⟩ = some (.int .i64 65536) := hU.out.cell 3; have cu4 : w7.cell? ⟨w5.heap.size, 4, none⟩ = some (.int .i64 m4) := hU.out.cell 4; have cu5 : w7.cell? ⟨w5.heap.size, 5, none⟩ = some (.int .i64 m5) := hU.out.cell 5; have lhU := hU.out.lt; have cv0 : w7.cell? ⟨w6.heap.size, 0, none⟩ = some (.int .i64 v0) := hV.out.cell 0; have cv1 : w7.cell? ⟨w6.heap.size, 1, none⟩ = some (.int .i64 v1) := hV.out.cell 1; have cv2 : w7.cell? ⟨w6.heap.size, 2, none⟩ = some (.int .i64 v2) := hV.out.cell 2; have cv3 : w7.cell? ⟨w6.heap.size, 3, none⟩ = some (.int .i64 v3) := hV.out.cell 3; have cv4 : w7.cell? ⟨w6.heap.size, 4, none⟩ = some (.int .i64 v4) := hV.out.cell 4; have cv5 : w7.cell? ⟨w6.heap.size, 5, none⟩ = some (.int .i64 v5) := hV.out.cell 5; have lhV := hV.out.lt; skip))
      have nhM := Aside0.mk (show Has (w7.alloc (.cells (pC t0 t1) 24)) (w.heap.size + 1 + 1) (mC m0 m1 m2 m3 m4 m5) 22 from Has.alloc hM.out _)
      have nhP := Aside0.mk (show Has (w7.alloc (.cells (pC t0 t1) 24)) (wr.heap.size) (pC X Y) 24 from Has.alloc hP.out _)
      have nhU := Aside0.mk (show Has (w7.alloc (.cells (pC t0 t1) 24)) (w5.heap.size) (mC 65536 K 0 65536 m4 m5) 22 from Has.alloc hU.out _)
      have nhV := Aside0.mk (show Has (w7.alloc (.cells (pC t0 t1) 24)) (w6.heap.size) (mC v0 v1 v2 v3 v4 v5) 22 from Has.alloc hV.out _)
      have nHB := Aside0.mk (below_alloc HB.out (.cells (pC t0 t1) 24))
      have N0 := Aside0.mk (Has.new w7 (pC t0 t1) 24 rfl)
      clear cm0 cm1 cm2 cm3 cm4 cm5 lhM cp0 cp1 lhP cu0 cu1 cu2 cu3 cu4 cu5 lhU cv0 cv1 cv2 cv3 cv4 cv5 lhV
      clear hM hP hU hV HB
      have hM := nhM
      clear nhM
      have hP := nhP
      clear nhP
      have hU := nhU
      clear nhU
      have hV := nhV
      clear nhV
      have HB := nHB
      clear nHB
      have hT := N0
      clear N0
      generalize w7.alloc (.cells (pC t0 t1) 24) = W7 at *
      have cm0 : W7.cell? ⟨w.heap.size + 1 + 1, 0, none⟩ = some (.int .i64 m0) := hM.out.cell 0
      have cm1 : W7.cell? ⟨w.heap.size + 1 + 1, 1, none⟩ = some (.int .i64 m1) := hM.out.cell 1
      have cm2 : W7.cell? ⟨w.heap.size + 1 + 1, 2, none⟩ = some (.int .i64 m2) := hM.out.cell 2
      have cm3 : W7.cell? ⟨w.heap.size + 1 + 1, 3, none⟩ = some (.int .i64 m3) := hM.out.cell 3
      have cm4 : W7.cell? ⟨w.heap.size + 1 + 1, 4, none⟩ = some (.int .i64 m4) := hM.out.cell 4
      have cm5 : W7.cell? ⟨w.heap.size + 1 + 1, 5, none⟩ = some (.int .i64 m5) := hM.out.cell 5
      have lhM := hM.out.lt
      have cp0 : W7.cell? ⟨wr.heap.size, 0, none⟩ = some (.int .i64 X) := hP.out.cell 0
      have cp1 : W7.cell? ⟨wr.heap.size, 1, none⟩ = some (.int .i64 Y) := hP.out.cell 1
      have lhP := hP.out.lt
      have cu0 : W7.cell? ⟨w5.heap.size, 0, none⟩ = some (.int .i64 65536) := hU.out.cell 0
      have cu1 : W7.cell? ⟨w5.heap.size, 1, none⟩ = some (.int .i64 K) := hU.out.cell 1
      have cu2 : W7.cell? ⟨w5.heap.size, 2, none⟩ = some (.int .i64 0) := hU.out.cell 2
      have cu3 : W7.cell? ⟨w5.heap.size, 3, none⟩ = some (.int .i64 65536) := hU.out.cell 3
      have cu4 : W7.cell? ⟨w5.heap.size, 4, none⟩ = some (.int .i64 m4) := hU.out.cell 4
      have cu5 : W7.cell? ⟨w5.heap.size, 5, none⟩ = some (.int .i64 m5) := hU.out.cell 5
      have lhU := hU.out.lt
      have cv0 : W7.cell? ⟨w6.heap.size, 0, none⟩ = some (.int .i64 v0) := hV.out.cell 0
      have cv1 : W7.cell? ⟨w6.heap.size, 1, none⟩ = some (.int .i64 v1) := hV.out.cell 1
      have cv2 : W7.cell? ⟨w6.heap.size, 2, none⟩ = some (.int .i64 v2) := hV.out.cell 2
      have cv3 : W7.cell? ⟨w6.heap.size, 3, none⟩ = some (.int .i64 v3) := hV.out.cell 3
      have cv4 : W7.cell? ⟨w6.heap.size, 4, none⟩ = some (.int .i64 v4) := hV.out.cell 4
      have cv5 : W7.cell? ⟨w6.heap.size, 5, none⟩ = some (.int .i64 v5) := hV.out.cell 5
      have lhV := hV.out.lt
      have ct0 : W7.cell? ⟨w7.heap.size, 0, none⟩ = some (.int .i64 t0) := hT.out.cell 0
      have ct1 : W7.cell? ⟨w7.heap.size, 1, none⟩ = some (.int .i64 t1) := hT.out.cell 1
      have lhT := hT.out.lt
      go_upto_region 19 with (go_at_call 8; ((with_reducible refine (cApply _ _ _ _ _ _ _ _ _ ).mono ?_); rintro e w8 ⟨rfl, hb⟩; rw [HV.out]; have nhM := Aside0.mk (show Has w8 (w.heap.size + 1 + 1) (mC m0 m1 m2 m3 m4 m5) 22 from Has.below (by repeat (first | (with_reducible exact hM.out) | (with_reducible first | apply Has.alloc | apply Has.drewN | apply Has.drew) | (with_reducible refine Has.far ?_ (by dsimp only; omega) _))) hb); have nhP := Aside0.mk (show Has w8 (wr.heap.size) (pC X Y) 24 from Has.below (by repeat (first | (with_reducible exact hP.out) | (with_reducible first | apply Has.alloc | apply Has.drewN | apply Has.drew) | (with_reducible refine Has.far ?_ (by dsimp only; omega) _))) hb); have nhU := Aside0.mk (show Has w8 (w5.heap.size) (mC 65536 K 0 65536 m4 m5) 22 from Has.below (by repeat (first | (with_reducible exact hU.out) | (with_reducible first | apply Has.alloc | apply Has.drewN | apply Has.drew) | (with_reducible refine Has.far ?_ (by dsimp only; omega) _))) hb); have nhV := Aside0.mk (show Has w8 (w6.heap.size) (mC v0 v1 v2 v3 v4 v5) 22 from Has.below (by repeat (first | (with_reducible exact hV.out) | (with_reducible first | apply Has.alloc | apply Has.drewN | apply Has.drew) | (with_reducible refine Has.far ?_ (by dsimp only; omega) _))) hb); have nhT := Aside0.mk (show Has w8 (w7.heap.size) (pC t0 t1) 24 from Has.below (by repeat (first | (with_reducible exact hT.out) | (with_reducible first | apply Has.alloc | apply Has.drewN | apply Has.drew) | (with_reducible refine Has.far ?_ (by dsimp only; omega) _))) hb); have nHB := Aside0.mk (below_step (by repeat (first | (with_reducible first | exact HB.out | apply below_alloc | apply pw_below_drewN | apply below_drew1))) hb); clear hb cm0 cm1 cm2 cm3 cm4 cm5 lhM cp0 cp1 lhP cu0 cu1 cu2 cu3 cu4 cu5 lhU cv0 cv1 cv2 cv3 cv4 cv5 lhV ct0 ct1 lhT; clear hM hP hU hV hT HB; have hM := nhM; clear nhM; have hP := nhP; clear nhP; have hU := nhU; clear nhU; have hV := nhV; clear nhV; have hT := nhT; clear nhT; have HB := nHB; clear nHB; have cm0 : w8.cell? ⟨w.heap.size + 1 + 1, 0, none⟩ = some (.int .i64 m0) := hM.out.cell 0; have cm1 : w8.cell? ⟨w.heap.size + 1 + 1, 1, none⟩ = some (.int .i64 m1) := hM.out.cell 1; have cm2 : w8.cell? ⟨w.heap.size + 1 + 1, 2, none⟩ = some (.int .i64 m2) := hM.out.cell 2; have cm3 : w8.cell? ⟨w.heap.size + 1 + 1, 3, none⟩ = some (.int .i64 m3) := hM.out.cell 3; have cm4 : w8.cell? ⟨w.heap.size + 1 + 1, 4, none⟩ = some (.int .i64 m4) := hM.out.cell 4; have cm5 : w8.cell? ⟨w.heap.size + 1 + 1, 5, none⟩ = some (.int .i64 m5) := hM.out.cell 5; have lhM := hM.out.lt; have cp0 : w8.cell? ⟨wr.heap.size, 0, none⟩ = some (.int .i64 X) := hP.out.cell 0; have cp1 : w8.cell? ⟨wr.heap.size, 1, none⟩ = some (.int .i64 Y) := hP.out.cell 1; have lhP := hP.out.lt; have cu0 : w8.cell? ⟨w5.heap.size, 0, none⟩ = some (.int .i64 65536) := hU.out.cell 0; have cu1 : w8.cell? ⟨w5.heap.size, 1, none⟩ = some (.int .i64 K) := hU.out.cell 1; have cu2 : w8.cell? ⟨w5.heap.size, 2, none⟩ = some (.int .i64 0) := hU.out.cell 2; have cu3 : w8.cell? ⟨w5.heap.size, 3, none⟩ = some (.int .i64 65536) := hU.out.cell 3; have cu4 : w8.cell? ⟨w5.heap.size, 4, none⟩ = some (.int .i64 m4) := hU.out.cell 4; have cu5 : w8.cell? ⟨w5.heap.size, 5, none⟩ = some (.int .i64 m5) := hU.out.cell 5; have lhU := hU.out.lt; have cv0 : w8.cell? ⟨w6.heap.size, 0, none⟩ = some (.int .i64 v0) := hV.out.cell 0; have cv1 : w8.cell? ⟨w6.heap.size, 1, none⟩ = some (.int .i64 v1) := hV.out.cell 1; have cv2 : w8.cell? ⟨w6.heap.size, 2, none⟩ = some (.int .i64 v2) := hV.out.cell 2; have cv3 : w8.cell? ⟨w6.heap.size, 3, none⟩ = some (.int .i64 v3) := hV.out.cell 3; have cv4 : w8.cell? ⟨w6.heap.size, 4, none⟩ = some (.int .i64 v4) := hV.out.cell 4; have cv5 : w8.cell? ⟨w6.heap.size, 5, none⟩ = some (.int .i64 v5) := hV.out.cell 5; have lhV := hV.out.lt; have ct0 : w8.cell? ⟨w7.heap.size, 0, none⟩ = some (.int .i64 t0) := hT.out.cell 0; have ct1 : w8.cell? ⟨w7.heap.size, 1, none⟩ = some (.int .i64 t1) := hT.out.cell 1; have lhT := hT.out.lt; skip))
      have nhM := Aside0.mk (show Has (w8.alloc (.cells (pC X Y) 24)) (w.heap.size + 1 + 1) (mC m0 m1 m2 m3 m4 m5) 22 from Has.alloc hM.out _)
      have nhP := Aside0.mk (show Has (w8.alloc (.cells (pC X Y) 24)) (wr.heap.size) (pC X Y) 24 from Has.alloc hP.out _)
      have nhU := Aside0.mk (show Has (w8.alloc (.cells (pC X Y) 24)) (w5.heap.size) (mC 65536 K 0 65536 m4 m5) 22 from Has.alloc hU.out _)
      have nhV := Aside0.mk (show Has (w8.alloc (.cells (pC X Y) 24)) (w6.heap.size) (mC v0 v1 v2 v3 v4 v5) 22 from Has.alloc hV.out _)
      have nhT := Aside0.mk (show Has (w8.alloc (.cells (pC X Y) 24)) (w7.heap.size) (pC t0 t1) 24 from Has.alloc hT.out _)
      have nHB := Aside0.mk (below_alloc HB.out (.cells (pC X Y) 24))
      have N0 := Aside0.mk (Has.new w8 (pC X Y) 24 rfl)
      clear cm0 cm1 cm2 cm3 cm4 cm5 lhM cp0 cp1 lhP cu0 cu1 cu2 cu3 cu4 cu5 lhU cv0 cv1 cv2 cv3 cv4 cv5 lhV ct0 ct1 lhT
      clear hM hP hU hV hT HB
      have hM := nhM
      clear nhM
      have hP := nhP
      clear nhP
      have hU := nhU
      clear nhU
      have hV := nhV
      clear nhV
      have hT := nhT
      clear nhT
      have HB := nHB
      clear nHB
      have hK := N0
      clear N0
      generalize w8.alloc (.cells (pC X Y) 24) = W8 at *
      have cm0 : W8.cell? ⟨w.heap.size + 1 + 1, 0, none⟩ = some (.int .i64 m0) := hM.out.cell 0
      have cm1 : W8.cell? ⟨w.heap.size + 1 + 1, 1, none⟩ = some (.int .i64 m1) := hM.out.cell 1
      have cm2 : W8.cell? ⟨w.heap.size + 1 + 1, 2, none⟩ = some (.int .i64 m2) := hM.out.cell 2
      have cm3 : W8.cell? ⟨w.heap.size + 1 + 1, 3, none⟩ = some (.int .i64 m3) := hM.out.cell 3
      have cm4 : W8.cell? ⟨w.heap.size + 1 + 1, 4, none⟩ = some (.int .i64 m4) := hM.out.cell 4
      have cm5 : W8.cell? ⟨w.heap.size + 1 + 1, 5, none⟩ = some (.int .i64 m5) := hM.out.cell 5
      have lhM := hM.out.lt
      have cp0 : W8.cell? ⟨wr.heap.size, 0, none⟩ = some (.int .i64 X) := hP.out.cell 0
      have cp1 : W8.cell? ⟨wr.heap.size, 1, none⟩ = some (.int .i64 Y) := hP.out.cell 1
      have lhP := hP.out.lt
      have cu0 : W8.cell? ⟨w5.heap.size, 0, none⟩ = some (.int .i64 65536) := hU.out.cell 0
      have cu1 : W8.cell? ⟨w5.heap.size, 1, none⟩ = some (.int .i64 K) := hU.out.cell 1
      have cu2 : W8.cell? ⟨w5.heap.size, 2, none⟩ = some (.int .i64 0) := hU.out.cell 2
      have cu3 : W8.cell? ⟨w5.heap.size, 3, none⟩ = some (.int .i64 65536) := hU.out.cell 3
      have cu4 : W8.cell? ⟨w5.heap.size, 4, none⟩ = some (.int .i64 m4) := hU.out.cell 4
      have cu5 : W8.cell? ⟨w5.heap.size, 5, none⟩ = some (.int .i64 m5) := hU.out.cell 5
      have lhU := hU.out.lt
      have cv0 : W8.cell? ⟨w6.heap.size, 0, none⟩ = some (.int .i64 v0) := hV.out.cell 0
      have cv1 : W8.cell? ⟨w6.heap.size, 1, none⟩ = some (.int .i64 v1) := hV.out.cell 1
      have cv2 : W8.cell? ⟨w6.heap.size, 2, none⟩ = some (.int .i64 v2) := hV.out.cell 2
      have cv3 : W8.cell? ⟨w6.heap.size, 3, none⟩ = some (.int .i64 v3) := hV.out.cell 3
      have cv4 : W8.cell? ⟨w6.heap.size, 4, none⟩ = some (.int .i64 v4) := hV.out.cell 4
      have cv5 : W8.cell? ⟨w6.heap.size, 5, none⟩ = some (.int .i64 v5) := hV.out.cell 5
      have lhV := hV.out.lt
      have ct0 : W8.cell? ⟨w7.heap.size, 0, none⟩ = some (.int .i64 t0) := hT.out.cell 0
      have ct1 : W8.cell? ⟨w7.heap.size, 1, none⟩ = some (.int .i64 t1) := hT.out.cell 1
      have lhT := hT.out.lt
      have ck0 : W8.cell? ⟨w8.heap.size, 0, none⟩ = some (.int .i64 X) := hK.out.cell 0
      have ck1 : W8.cell? ⟨w8.heap.size, 1, none⟩ = some (.int .i64 Y) := hK.out.cell 1
      have lhK := hK.out.lt
      go_upto_region 20 with (go_at_call 21; ((with_reducible refine (cScale _ _ _ _ _ _ _ ).mono ?_); rintro e w9 ⟨rfl, hb⟩; rw [HSc.out]; have nhM := Aside0.mk (show Has w9 (w.heap.size + 1 + 1) (mC m0 m1 m2 m3 m4 m5) 22 from Has.below (by repeat (first | (with_reducible exact hM.out) | (with_reducible first | apply Has.alloc | apply Has.drewN | apply Has.drew) | (with_reducible refine Has.far ?_ (by dsimp only; omega) _))) hb); have nhP := Aside0.mk (show Has w9 (wr.heap.size) (pC X Y) 24 from Has.below (by repeat (first | (with_reducible exact hP.out) | (with_reducible first | apply Has.alloc | apply Has.drewN | apply Has.drew) | (with_reducible refine Has.far ?_ (by dsimp only; omega) _))) hb); have nhU := Aside0.mk (show Has w9 (w5.heap.size) (mC 65536 K 0 65536 m4 m5) 22 from Has.below (by repeat (first | (with_reducible exact hU.out) | (with_reducible first | apply Has.alloc | apply Has.drewN | apply Has.drew) | (with_reducible refine Has.far ?_ (by dsimp only; omega) _))) hb); have nhV := Aside0.mk (show Has w9 (w6.heap.size) (mC v0 v1 v2 v3 v4 v5) 22 from Has.below (by repeat (first | (with_reducible exact hV.out) | (with_reducible first | apply Has.alloc | apply Has.drewN | apply Has.drew) | (with_reducible refine Has.far ?_ (by dsimp only; omega) _))) hb); have nhT := Aside0.mk (show Has w9 (w7.heap.size) (pC t0 t1) 24 from Has.below (by repeat (first | (with_reducible exact hT.out) | (with_reducible first | apply Has.alloc | apply Has.drewN | apply Has.drew) | (with_reducible refine Has.far ?_ (by dsimp only; omega) _))) hb); have nhK := Aside0.mk (show Has w9 (w8.heap.size) (pC X Y) 24 from Has.below (by repeat (first | (with_reducible exact hK.out) | (with_reducible first | apply Has.alloc | apply Has.drewN | apply Has.drew) | (with_reducible refine Has.far ?_ (by dsimp only; omega) _))) hb); have nHB := Aside0.mk (below_step (by repeat (first | (with_reducible first | exact HB.out | apply below_alloc | apply pw_below_drewN | apply below_drew1))) hb); clear hb cm0 cm1 cm2 cm3 cm4 cm5 lhM cp0 cp1 lhP cu0 cu1 cu2 cu3 cu4 cu5 lhU cv0 cv1 cv2 cv3 cv4 cv5 lhV ct0 ct1 lhT ck0 ck1 lhK; clear hM hP hU hV hT hK HB; have hM := nhM; clear nhM; have hP := nhP; clear nhP; have hU := nhU; clear nhU; have hV := nhV; clear nhV; have hT := nhT; clear nhT; have hK := nhK; clear nhK; have HB := nHB; clear nHB; have cm0 : w9.cell? ⟨w.heap.size + 1 + 1, 0, none⟩ = some (.int .i64 m0) := hM.out.cell 0; have cm1 : w9.cell? ⟨w.heap.size + 1 + 1, 1, none⟩ = some (.int .i64 m1) := hM.out.cell 1; have cm2 : w9.cell? ⟨w.heap.size + 1 + 1, 2, none⟩ = some (.int .i64 m2) := hM.out.cell 2; have cm3 : w9.cell? ⟨w.heap.size + 1 + 1, 3, none⟩ = some (.int .i64 m3) := hM.out.cell 3; have cm4 : w9.cell? ⟨w.heap.size + 1 + 1, 4, none⟩ = some (.int .i64 m4) := hM.out.cell 4; have cm5 : w9.cell? ⟨w.heap.size + 1 + 1, 5, none⟩ = some (.int .i64 m5) := hM.out.cell 5; have lhM := hM.out.lt; have cp0 : w9.cell? ⟨wr.heap.size, 0, none⟩ = some (.int .i64 X) := hP.out.cell 0; have cp1 : w9.cell? ⟨wr.heap.size, 1, none⟩ = some (.int .i64 Y) := hP.out.cell 1; have lhP := hP.out.lt; have cu0 : w9.cell? ⟨w5.heap.size, 0, none⟩ = some (.int .i64 65536) := hU.out.cell 0; have cu1 : w9.cell? ⟨w5.heap.size, 1, none⟩ = some (.int .i64 K) := hU.out.cell 1; have cu2 : w9.cell? ⟨w5.heap.size, 2, none⟩ = some (.int .i64 0) := hU.out.cell 2; have cu3 : w9.cell? ⟨w5.heap.size, 3, none⟩ = some (.int .i64 65536) := hU.out.cell 3; have cu4 : w9.cell? ⟨w5.heap.size, 4, none⟩ = some (.int .i64 m4) := hU.out.cell 4; have cu5 : w9.cell? ⟨w5.heap.size, 5, none⟩ = some (.int .i64 m5) := hU.out.cell 5; have lhU := hU.out.lt; have cv0 : w9.cell? ⟨w6.heap.size, 0, none⟩ = some (.int .i64 v0) := hV.out.cell 0; have cv1 : w9.cell? ⟨w6.heap.size, 1, none⟩ = some (.int .i64 v1) := hV.out.cell 1; have cv2 : w9.cell? ⟨w6.heap.size, 2, none⟩ = some (.int .i64 v2) := hV.out.cell 2; have cv3 : w9.cell? ⟨w6.heap.size, 3, none⟩ = some (.int .i64 v3) := hV.out.cell 3; have cv4 : w9.cell? ⟨w6.heap.size, 4, none⟩ = some (.int .i64 v4) := hV.out.cell 4; have cv5 : w9.cell? ⟨w6.heap.size, 5, none⟩ = some (.int .i64 v5) := hV.out.cell 5; have lhV := hV.out.lt; have ct0 : w9.cell? ⟨w7.heap.size, 0, none⟩ = some (.int .i64 t0) := hT.out.cell 0; have ct1 : w9.cell? ⟨w7.heap.size, 1, none⟩ = some (.int .i64 t1) := hT.out.cell 1; have lhT := hT.out.lt; have ck0 : w9.cell? ⟨w8.heap.size, 0, none⟩ = some (.int .i64 X) := hK.out.cell 0; have ck1 : w9.cell? ⟨w8.heap.size, 1, none⟩ = some (.int .i64 Y) := hK.out.cell 1; have lhK := hK.out.lt; skip))
      go_wp2
      go_ret
      exact ⟨rfl, HB.out⟩
end Go.Proofs.Ytkggogbgnphmpaa.Whole
