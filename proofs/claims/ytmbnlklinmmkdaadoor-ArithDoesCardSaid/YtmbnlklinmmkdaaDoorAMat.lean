import Derived.Test.YtmbnlklinmmkdaaDoorARef
import Derived.Laws.ResultCell
namespace Go.Proofs.YtmbnlklinmmkdaaDoor.MatA
open Go.RowKit Go.Proofs.YtmbnlklinmmkdaaDoorW.PrintWords Go.Proofs.YtmbnlklinmmkdaaDoorW.PrintLast Go.Proofs.YtmbnlklinmmkdaaDoorW.PrintMore
open Go.Proofs.YtmbnlklinmmkdaaDoor.Sem Go.Proofs.YtmbnlklinmmkdaaDoor.Base
abbrev mV (m0 m1 m2 m3 m4 m5 : Int) : Value := .agg #[.int .i64 m0, .int .i64 m1, .int .i64 m2, .int .i64 m3, .int .i64 m4, .int .i64 m5]
abbrev mC (m0 m1 m2 m3 m4 m5 : Int) : Array Value := #[.int .i64 m0, .int .i64 m1, .int .i64 m2, .int .i64 m3, .int .i64 m4, .int .i64 m5]
abbrev r6V (r : R6) : Value := .tuple #[mV r.a r.b r.c r.d r.e r.f, .int .i64 r.s]
theorem load6 {W : World} {b : Nat} {v0 v1 v2 v3 v4 v5 : Int} (h : Has W b (mC v0 v1 v2 v3 v4 v5) 76) :
    (loadVar 76 ⟨b, 0, none⟩).run Tryd.prog W = .ok (mV v0 v1 v2 v3 v4 v5) W := by
  have c0 : W.cell? ⟨b, 0, none⟩ = some (.int .i64 v0) := h.cell 0
  have c1 : W.cell? ⟨b, 1, none⟩ = some (.int .i64 v1) := h.cell 1
  have c2 : W.cell? ⟨b, 2, none⟩ = some (.int .i64 v2) := h.cell 2
  have c3 : W.cell? ⟨b, 3, none⟩ = some (.int .i64 v3) := h.cell 3
  have c4 : W.cell? ⟨b, 4, none⟩ = some (.int .i64 v4) := h.cell 4
  have c5 : W.cell? ⟨b, 5, none⟩ = some (.int .i64 v5) := h.cell 5
  simp [loadVar, go_sem, c0, c1, c2, c3, c4, c5]
theorem out6 {fn : Func} {p u : Tmp} (hf : fn.results = #[.cell p 76, .tmp u]) {tmps : Array Value} {W : World} {b : Nat} {v0 v1 v2 v3 v4 v5 e : Int}
    (hp : tmps.getD p undef = .pointer (some ⟨b, 0, none⟩)) (hu : tmps.getD u undef = .int .i64 e) (h : Has W b (mC v0 v1 v2 v3 v4 v5) 76) :
    (results fn tmps).run Tryd.prog W = .ok (r6V ⟨v0, v1, v2, v3, v4, v5, e⟩) W := by
  rw [results_cell_tmp hf, hp, hu]
  simp [asAddr, Result.andThen, load6 h]
end Go.Proofs.YtmbnlklinmmkdaaDoor.MatA
