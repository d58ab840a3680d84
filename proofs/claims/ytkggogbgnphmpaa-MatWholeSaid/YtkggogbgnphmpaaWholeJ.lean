/- The law MatWhole, joined: the walk, and the plain sums. -/
import Derived.Test.YtkggogbgnphmpaaWholeW
import Derived.Test.YtkggogbgnphmpaaSem3
namespace Go.Proofs.Ytkggogbgnphmpaa.Whole
open Go.RowKit Go.Proofs.YtkggogbgnphmpaaW.PrintWords Go.Proofs.YtkggogbgnphmpaaW.PrintLast Go.Proofs.YtkggogbgnphmpaaW.PrintMore
open Go.Proofs.Ytkggogbgnphmpaa.Sem Go.Proofs.Ytkggogbgnphmpaa.Base Go.Proofs.Ytkggogbgnphmpaa.MatA Go.Proofs.Ytkggogbgnphmpaa.MatB

theorem whole (a0 a1 a2 a3 a4 a5 b0 b1 b2 b3 b4 b5 x y up : Int) (w : World) (ru : 0 ≤ up) :
    Calls Try.prog 7 #[bV a0 a1 a2 a3 a4 a5, bV b0 b1 b2 b3 b4 b5, .int .i8 x, .int .i8 y, .int .u8 up] w fun e w' => e = .returned (.bool true) ∧ Below w.heap.size w w' := by
  have ta0 : -3 ≤ (a0).tmod 4 ∧ (a0).tmod 4 ≤ 3 := by have := tmod_bnd a0 (n := 4) (by omega); omega
  have tb0 : -3 ≤ (b0).tmod 4 ∧ (b0).tmod 4 ≤ 3 := by have := tmod_bnd b0 (n := 4) (by omega); omega
  have ta1 : -3 ≤ (a1).tmod 4 ∧ (a1).tmod 4 ≤ 3 := by have := tmod_bnd a1 (n := 4) (by omega); omega
  have tb1 : -3 ≤ (b1).tmod 4 ∧ (b1).tmod 4 ≤ 3 := by have := tmod_bnd b1 (n := 4) (by omega); omega
  have ta2 : -3 ≤ (a2).tmod 4 ∧ (a2).tmod 4 ≤ 3 := by have := tmod_bnd a2 (n := 4) (by omega); omega
  have tb2 : -3 ≤ (b2).tmod 4 ∧ (b2).tmod 4 ≤ 3 := by have := tmod_bnd b2 (n := 4) (by omega); omega
  have ta3 : -3 ≤ (a3).tmod 4 ∧ (a3).tmod 4 ≤ 3 := by have := tmod_bnd a3 (n := 4) (by omega); omega
  have tb3 : -3 ≤ (b3).tmod 4 ∧ (b3).tmod 4 ≤ 3 := by have := tmod_bnd b3 (n := 4) (by omega); omega
  have ta4 : -3 ≤ (a4).tmod 4 ∧ (a4).tmod 4 ≤ 3 := by have := tmod_bnd a4 (n := 4) (by omega); omega
  have tb4 : -3 ≤ (b4).tmod 4 ∧ (b4).tmod 4 ≤ 3 := by have := tmod_bnd b4 (n := 4) (by omega); omega
  have ta5 : -3 ≤ (a5).tmod 4 ∧ (a5).tmod 4 ≤ 3 := by have := tmod_bnd a5 (n := 4) (by omega); omega
  have tb5 : -3 ≤ (b5).tmod 4 ∧ (b5).tmod 4 ≤ 3 := by have := tmod_bnd b5 (n := 4) (by omega); omega
  have tx : -19 ≤ x.tmod 20 ∧ x.tmod 20 ≤ 19 := by have := tmod_bnd x (n := 20) (by omega); omega
  have ty : -19 ≤ y.tmod 20 ∧ y.tmod 20 ≤ 19 := by have := tmod_bnd y (n := 20) (by omega); omega
  have tu : -8 ≤ up.tmod 9 ∧ up.tmod 9 ≤ 8 := by have := tmod_bnd up (n := 9) (by omega); omega
  obtain ⟨q0, q1, r0, r1, hq, hq2, hr⟩ := both ta0 ta1 ta2 ta3 ta4 ta5 tb0 tb1 tb2 tb3 tb4 tb5 tx ty
  obtain ⟨v0, v1, v2, v3, v4, v5, t0, t1, hi, ht, hv⟩ := back tu ta4 ta5 tx ty
  exact walk w rfl rfl rfl rfl rfl rfl rfl rfl rfl rfl rfl rfl ru rfl rfl rfl ⟨concat_whole ta0 ta1 ta2 ta3 ta4 ta5 tb0 tb1 tb2 tb3 tb4 tb5⟩ ⟨hq⟩ ⟨hq2⟩ ⟨hr⟩ ⟨hi⟩ ⟨ht⟩ ⟨hv⟩ ⟨scale_whole tu⟩
end Go.Proofs.Ytkggogbgnphmpaa.Whole
