import Derived.Test.YtmbnlklinmmkdaaDoorProg
import Derived.WalkKit
import Derived.ProofKit
import Derived.OpenShut
import Derived.Deep.Fields
import Derived.Lib.SmallJoins
import Derived.Test.YtmbnlklinmmkdaaDoorADo
import Derived.Deep.Slices
namespace Go.Proofs.YtmbnlklinmmkdaaDoor.Opened
open Go.ChangeShapes Go.WideShapes Go.RowKit Go.Joins Go.Deep
variable {H : Type} {enc : TypeId × Value → H} {P : Program} {w : World} {base : Nat} {spare : Nat → Bool} {held : Bool}
end Go.Proofs.YtmbnlklinmmkdaaDoor.Opened

namespace Go.Proofs.YtmbnlklinmmkdaaDoor.One
open Go.RowKit Go.Proofs.YtmbnlklinmmkdaaDoor.Sem Go.Proofs.YtmbnlklinmmkdaaDoor.Base Go.Proofs.YtmbnlklinmmkdaaDoor.Pure Go.Proofs.YtmbnlklinmmkdaaDoor.Leaf Go.Proofs.YtmbnlklinmmkdaaDoor.MatA
def ObjAt (W : World) (a : Addr) : Prop := ∃ (k : Int) (x : Bool) (a' n : Int) (s : ByteArray) (r f l : Int), ∀ q u, (oC k x a' n s r f l).toList[q]? = some u → W.cell? (a.add q) = some u
def Args (W : World) (v : Value) : Prop := v = .slice none 0 0 ∨ ∃ (a : Addr) (len cap : Nat), v = .slice (some a) len cap ∧ ∀ i, i < len → ObjAt W (a.add (i * 8))
end Go.Proofs.YtmbnlklinmmkdaaDoor.One
namespace Go.Proofs.YtmbnlklinmmkdaaDoor.Opened
open Go.ChangeShapes Go.WideShapes Go.RowKit Go.Joins Go.Deep Go.Proofs.YtmbnlklinmmkdaaDoor.One Go.Proofs.YtmbnlklinmmkdaaDoor.Leaf
variable {H : Type} {enc : TypeId × Value → H} {P : Program} {w : World} {base : Nat} {spare : Nat → Bool} {held : Bool}
theorem open_cells8 {fuel : Nat} {t : TypeId} {f0 f1 f2 f3 f4 f5 f6 f7 : Field} {cs : List Value} {y : DataW H × List MemPlace} (hs : P.underlying t = some (.struct #[f0, f1, f2, f3, f4, f5, f6, f7])) (hone : oneCellFields P #[f0, f1, f2, f3, f4, f5, f6, f7] = true) (hl : cs.length = 8)
    (h : DataW.trod enc P w base spare held fuel t cs = some y) :
    ∃ (v0 v1 v2 v3 v4 v5 v6 v7 : Value) (y0 y1 y2 y3 y4 y5 y6 y7 : DataW H × List MemPlace) (n : Nat), cs = [v0, v1, v2, v3, v4, v5, v6, v7] ∧ DataW.trod enc P w base spare held n f0.type [v0] = some y0 ∧ DataW.trod enc P w base spare held n f1.type [v1] = some y1 ∧ DataW.trod enc P w base spare held n f2.type [v2] = some y2 ∧ DataW.trod enc P w base spare held n f3.type [v3] = some y3 ∧ DataW.trod enc P w base spare held n f4.type [v4] = some y4 ∧ DataW.trod enc P w base spare held n f5.type [v5] = some y5 ∧ DataW.trod enc P w base spare held n f6.type [v6] = some y6 ∧ DataW.trod enc P w base spare held n f7.type [v7] = some y7 := by
  match cs, hl with
  | [c0, c1, c2, c3, c4, c5, c6, c7], _ =>
    obtain ⟨xs, n, _, hx, _, hlen, hg⟩ := DataW.trod_struct hs h
    obtain ⟨o0, k0⟩ := hone_of hone 0 f0 rfl
    obtain ⟨o1, k1⟩ := hone_of hone 1 f1 rfl
    obtain ⟨o2, k2⟩ := hone_of hone 2 f2 rfl
    obtain ⟨o3, k3⟩ := hone_of hone 3 f3 rfl
    obtain ⟨o4, k4⟩ := hone_of hone 4 f4 rfl
    obtain ⟨o5, k5⟩ := hone_of hone 5 f5 rfl
    obtain ⟨o6, k6⟩ := hone_of hone 6 f6 rfl
    obtain ⟨o7, k7⟩ := hone_of hone 7 f7 rfl
    match xs, hlen with
    | [y0, y1, y2, y3, y4, y5, y6, y7], _ =>
      exact ⟨c0, c1, c2, c3, c4, c5, c6, c7, y0, y1, y2, y3, y4, y5, y6, y7, n, rfl, by simpa [o0, k0] using hg 0 f0 rfl, by simpa [o1, k1] using hg 1 f1 rfl, by simpa [o2, k2] using hg 2 f2 rfl, by simpa [o3, k3] using hg 3 f3 rfl, by simpa [o4, k4] using hg 4 f4 rfl, by simpa [o5, k5] using hg 5 f5 rfl, by simpa [o6, k6] using hg 6 f6 rfl, by simpa [o7, k7] using hg 7 f7 rfl⟩
theorem cells_obj {W : World} {n : Nat} {cs : List Value} {y : DataW H × List MemPlace} (hlen : cs.length = 8) (h : DataW.trod enc Tryd.prog W base spare held n 38 cs = some y) :
    ∃ (k : Int) (x : Bool) (a n : Int) (s : ByteArray) (r f l : Int), cs = (oC k x a n s r f l).toList := by
  obtain ⟨v0, v1, v2, v3, v4, v5, v6, v7, y0, y1, y2, y3, y4, y5, y6, y7, m, rfl, h0, h1, h2, h3, h4, h5, h6, h7⟩ := open_cells8 Tryd.underlying38 (by kernel_rfl) hlen h
  obtain ⟨z0, e0, -, -⟩ := DataW.trod_int Tryd.underlying3 h0
  obtain ⟨z1, e1, -⟩ := DataW.trod_bool Tryd.underlying4 h1
  obtain ⟨z2, e2, -, -⟩ := DataW.trod_int Tryd.underlying3 h2
  obtain ⟨z3, e3, -, -⟩ := DataW.trod_int Tryd.underlying3 h3
  obtain ⟨z4, e4, -, -⟩ := DataW.trod_string Tryd.underlying9 h4
  obtain ⟨z5, e5, -, -⟩ := DataW.trod_int Tryd.underlying3 h5
  obtain ⟨z6, e6, -, -⟩ := DataW.trod_int Tryd.underlying3 h6
  obtain ⟨z7, e7, -, -⟩ := DataW.trod_int Tryd.underlying3 h7
  simp at e0 e1 e2 e3 e4 e5 e6 e7
  subst e0 e1 e2 e3 e4 e5 e6 e7
  exact ⟨z0, z1, z2, z3, z4, z5, z6, z7, rfl⟩
theorem open_args {W : World} {v : Value} {d : DataW H} {p : List MemPlace} {b0 : Nat} {r : Reach} (hv : Value.okWide Tryd.prog W r b0 22 v) (h : DataW.Trod enc Tryd.prog W base spare held 22 v d p) : Args W v := by
  obtain ⟨A, len, cap, rfl⟩ := okWide_slice Tryd.underlying22 hv
  obtain ⟨fuel, hf⟩ := h
  rcases open_slice Tryd.underlying22 hf with ⟨h0, _⟩ | ⟨a, len', cap', m, n, D, Pl, hcs, _, hl, _, hm, _, hi⟩
  · left
    simpa [Value.cells] using h0
  · right
    have e : (Value.slice A len cap) = .slice (some a) len' cap' := by simpa [Value.cells] using hcs
    refine ⟨a, len', cap', e, fun i him => ?_⟩
    have hmi : i < m := by rw [hm]; split <;> omega
    obtain ⟨cs', hc, ht⟩ := hi i hmi
    have h8 : Tryd.prog.cellsOf 38 = 8 := by kernel_rfl
    rw [h8] at hc
    obtain ⟨_, hcl, hat⟩ := World.cells?_some hc
    obtain ⟨k, x, a', n', s, r', f, l, rfl⟩ := cells_obj hcl ht
    refine ⟨k, x, a', n', s, r', f, l, fun q u hq => ?_⟩
    have hq8 : q < 8 := by rw [← hcl]; exact (List.getElem?_eq_some_iff.1 hq).1
    exact (hat q hq8).trans hq
end Go.Proofs.YtmbnlklinmmkdaaDoor.Opened
