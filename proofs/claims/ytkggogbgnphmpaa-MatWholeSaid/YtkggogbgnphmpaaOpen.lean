/- An array of six integers that came in by value, opened. -/
import Derived.Test.YtkggogbgnphmpaaProg
import Derived.WalkKit
import Derived.ProofKit
import Derived.OpenShut
import Derived.Lib.SmallJoins
namespace Go.Proofs.Ytkggogbgnphmpaa.Opened
open Go.ChangeShapes Go.WideShapes Go.RowKit Go.Joins
variable {H : Type} {enc : TypeId × Value → H} {P : Program} {w : World} {base : Nat} {spare : Nat → Bool} {held : Bool}

theorem array6 {cs : Array Value} (h : cs.size = 6) : ∃ c0 c1 c2 c3 c4 c5, cs = #[c0, c1, c2, c3, c4, c5] := by
  obtain ⟨l⟩ := cs
  match l, h with
  | [a, b, c, d, e, f], _ => exact ⟨a, b, c, d, e, f, rfl⟩

theorem open_arr6 {r : Reach} {b0 : Nat} {T E : TypeId} {k : IntKind} {v : Value} {d : DataW H} {p : List MemPlace} (hT : P.underlying T = some (.array 6 E)) (hE : P.underlying E = some (.int k)) (hC : P.cellsOf T = 6) (hc : P.cellsOf E = 1)
    (hv : Value.okWide P w r b0 T v) (h : DataW.Trod enc P w base spare held T v d p) :
    ∃ a0 a1 a2 a3 a4 a5 : Int, v = .agg #[.int k a0, .int k a1, .int k a2, .int k a3, .int k a4, .int k a5] ∧ (Lit.int k a0).wf = true ∧ (Lit.int k a1).wf = true ∧ (Lit.int k a2).wf = true ∧ (Lit.int k a3).wf = true ∧ (Lit.int k a4).wf = true ∧ (Lit.int k a5).wf = true := by
  have hv' : ∃ cs, v = .agg cs ∧ cs.size = P.cellsOf T := by
    unfold Value.okWide at hv; rw [hT] at hv
    obtain ⟨cs, h1, h2, _⟩ := hv
    exact ⟨cs, h1, h2⟩
  obtain ⟨cs, rfl, hs⟩ := hv'
  obtain ⟨c0, c1, c2, c3, c4, c5, rfl⟩ := array6 (hs.trans hC)
  obtain ⟨fuel, hf⟩ := h
  obtain ⟨xs, m, _, _, _, hl, hx⟩ := DataW.trod_array hT hf
  rw [hc] at hx
  match xs, hl with
  | [y0, y1, y2, y3, y4, y5], _ =>
    obtain ⟨a0, e0, _, w0⟩ := DataW.trod_int hE (hx 0 (by omega))
    obtain ⟨a1, e1, _, w1⟩ := DataW.trod_int hE (hx 1 (by omega))
    obtain ⟨a2, e2, _, w2⟩ := DataW.trod_int hE (hx 2 (by omega))
    obtain ⟨a3, e3, _, w3⟩ := DataW.trod_int hE (hx 3 (by omega))
    obtain ⟨a4, e4, _, w4⟩ := DataW.trod_int hE (hx 4 (by omega))
    obtain ⟨a5, e5, _, w5⟩ := DataW.trod_int hE (hx 5 (by omega))
    simp [Value.cells] at e0 e1 e2 e3 e4 e5
    exact ⟨a0, a1, a2, a3, a4, a5, by rw [e0, e1, e2, e3, e4, e5], w0, w1, w2, w3, w4, w5⟩
end Go.Proofs.Ytkggogbgnphmpaa.Opened
