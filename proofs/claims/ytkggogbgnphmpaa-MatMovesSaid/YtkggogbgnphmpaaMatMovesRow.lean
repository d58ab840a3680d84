/- For all moves, stretches and points of whole numbers of 16 bits the program moves and stretches points and distances as it says. No condition. -/
import Derived.Test.YtkggogbgnphmpaaRows
import Derived.Test.YtkggogbgnphmpaaMovesW
import Derived.Test.YtkggogbgnphmpaaOpen
import Derived.WalkKit
import Derived.ProofKit
import Derived.OpenShut
import Derived.Below
import Derived.Lib.SmallJoins
namespace Go.Proofs.Ytkggogbgnphmpaa.matMoves
open Go.ChangeShapes Go.WideShapes Go.ChangeAt Go.RowKit Go.Joins
open Go.Proofs.Ytkggogbgnphmpaa.Opened
set_option linter.unusedVariables false

theorem own : ownKnob Try.prog.godebug = none := by kernel_rfl
theorem laidOut : laidOutB Try.prog = true := by kernel_rfl

set_option maxRecDepth 100000 in
theorem lifted (os : Os) (started : os.Started) (H : Type) (enc : TypeId × Value → H) :
    ReturnsInHanded {} Try.checked os 4 .any (Rows.matMovesSpec.pre6 enc Try.prog Try.f4 Rows.matMovesRow.domain false) (Rows.matMovesSpec.post enc Try.prog Try.f4 false true false false) := by
  refine returnsInHanded_of_change (C := Try.checked) own started (by kernel_rfl) Try.func4
    (ChangeSpec.witness6 (enc := enc) (C := Try.checked) false ⟨#[], #[.int .i16 0, .int .i16 0, .int .i16 0, .int .i16 0], []⟩ 8 (by kernel_rfl) (by kernel_rfl) (by kernel_rfl) (by kernel_rfl)) ?_
  intro W base args ds gs before hval0 hW hcnd _
  have hval : ∀ (j : Nat) t v, Try.f4.params[j]? = some t → args[j]? = some v → Value.okWide Try.prog W .any base t v := hval0
  have hW' := hW
  obtain ⟨pl, pl2, hA0, hV, rfl, hfz, hnd⟩ := hW
  have hA : DataW.TrodAll enc Try.prog W 0 (fun _ => true) true Try.f4.params.toList args.toList ds pl := hA0
  rw [Try.params4] at hA hval
  obtain ⟨v0, vs0, d0, ds0, p0, q0, hargs, rfl, rfl, h0, r0⟩ := trodAll_cons hA
  obtain ⟨v1, vs1, d1, ds1, p1, q1, rfl, rfl, rfl, h1, r1⟩ := trodAll_cons r0
  obtain ⟨v2, vs2, d2, ds2, p2, q2, rfl, rfl, rfl, h2, r2⟩ := trodAll_cons r1
  obtain ⟨v3, vs3, d3, ds3, p3, q3, rfl, rfl, rfl, h3, r3⟩ := trodAll_cons r2
  obtain ⟨rfl, rfl, rfl⟩ := trodAll_nil r3
  obtain rfl : args = #[v0, v1, v2, v3] := by cases args; simp_all
  obtain ⟨rfl, rfl⟩ := trodVars_none hV
  obtain ⟨x, rfl, rfl, rfl, wx⟩ := open_int Try.underlying30 (hval 0 30 v0 rfl rfl) h0
  obtain ⟨y, rfl, rfl, rfl, wy⟩ := open_int Try.underlying30 (hval 1 30 v1 rfl rfl) h1
  obtain ⟨p, rfl, rfl, rfl, wp⟩ := open_int Try.underlying30 (hval 2 30 v2 rfl rfl) h2
  obtain ⟨q, rfl, rfl, rfl, wq⟩ := open_int Try.underlying30 (hval 3 30 v3 rfl rfl) h3
  clear hA0 hval0
  refine (Moves.walk x y p q (bounds_i16 wx).1 (bounds_i16 wx).2 (bounds_i16 wy).1 (bounds_i16 wy).2 (bounds_i16 wp).1 (bounds_i16 wp).2 (bounds_i16 wq).1 (bounds_i16 wq).2 W).mono fun e W' ⟨he, bel⟩ => ?_
  subst he
  exact ⟨_, rfl, _, _, _, [], _, [], hW', trodAll_mk1 (shut_bool Try.underlying4 _), (trodAll_cons_mk (shut_int Try.underlying30 wx) (trodAll_cons_mk (shut_int Try.underlying30 wy) (trodAll_cons_mk (shut_int Try.underlying30 wp) (trodAll_cons_mk (shut_int Try.underlying30 wq) trodAll_mk0)))), rfl, bel.frame _, fun h => by cases h⟩

theorem over : Rows.matMovesRow.holds Try.pinned (OpenSpec.ofChange Rows.matMovesSpec) :=
  OpenClaim.holds_of_wide 4 Try.f4 rfl rfl rfl rfl rfl rfl rfl ⟨rfl, rfl, rfl, rfl, rfl⟩ rfl rfl rfl rfl rfl (by kernel_rfl) Try.func4 (by kernel_rfl)
    (of_decide_eq_true (by kernel_rfl)) (by unfold Func.isWrapper; first | (rw [if_pos (by decide +kernel)]; kernel_rfl) | (rw [if_neg (by decide +kernel)]; exact ⟨rfl, rfl⟩))
    (fun os started H enc _ => lifted os started H enc)

theorem proved : Rows.MatMovesSaid := over
#print axioms proved
end Go.Proofs.Ytkggogbgnphmpaa.matMoves
namespace Go.Proofs.Ytkggogbgnphmpaa
/-- The row, under a short name, for the claim. -/
theorem matMoves_holds : Rows.MatMovesSaid := matMoves.proved
end Go.Proofs.Ytkggogbgnphmpaa
