import Derived.Test.YtmbnlklinmmkdaaDoorALaw0
import Derived.Test.YtmbnlklinmmkdaaDoorRAr
import Derived.Laws.AppendOwn
import Derived.Laws.AppendOwnNone
import Derived.LoopN
import Derived.OwnWalk
import Derived.Deep.RegionHeld
namespace Go.Proofs.YtmbnlklinmmkdaaDoor.One
open Go.RowKit Go.Proofs.YtmbnlklinmmkdaaDoorW.PrintWords Go.Proofs.YtmbnlklinmmkdaaDoorW.PrintLast Go.Proofs.YtmbnlklinmmkdaaDoorW.PrintMore
open Go.Proofs.YtmbnlklinmmkdaaDoor.Ref Go.Proofs.YtmbnlklinmmkdaaDoor.Sem Go.Proofs.YtmbnlklinmmkdaaDoor.Base Go.Proofs.YtmbnlklinmmkdaaDoor.Pure Go.Proofs.YtmbnlklinmmkdaaDoor.Leaf Go.Proofs.YtmbnlklinmmkdaaDoor.Turns Go.Proofs.YtmbnlklinmmkdaaDoor.MatA Go.Proofs.YtmbnlklinmmkdaaDoor.PArithDoes
set_option linter.unusedVariables false
theorem count_un {nm : ByteArray} (u : Un) (hm : nm.toList = u.name) : mezzotintlaw08_count.f 1 nm = some 1 := by
  cases u <;> simp [mezzotintlaw08_count.f, mezzotintlaw08_count.j0, hm, Un.name]
theorem count_bi {nm : ByteArray} (o : Bi) (hm : nm.toList = o.name) : mezzotintlaw08_count.f 1 nm = some 2 := by
  cases o <;> simp [mezzotintlaw08_count.f, mezzotintlaw08_count.j0, hm, Bi.name]
theorem count_no {nm : ByteArray} (hU : ∀ u : Un, nm.toList ≠ u.name) (hB : ∀ o : Bi, nm.toList ≠ o.name) : mezzotintlaw08_count.f 1 nm = some 0 := by
  have u0 := hU .neg
  have u1 := hU .abs
  have u2 := hU .ceiling
  have u3 := hU .floor
  have u4 := hU .round
  have u5 := hU .truncate
  have u6 := hU .sqrt
  have u7 := hU .sin
  have u8 := hU .cos
  have u9 := hU .not
  have b0 := hB .add
  have b1 := hB .sub
  have b2 := hB .mul
  have b3 := hB .div
  have b4 := hB .idiv
  have b5 := hB .mod
  have b6 := hB .and
  have b7 := hB .or
  have b8 := hB .xor
  have b9 := hB .bitshift
  have b10 := hB .gt
  have b11 := hB .ge
  have b12 := hB .lt
  have b13 := hB .le
  simp only [Un.name, Bi.name] at u0 u1 u2 u3 u4 u5 u6 u7 u8 u9 b0 b1 b2 b3 b4 b5 b6 b7 b8 b9 b10 b11 b12 b13
  simp [mezzotintlaw08_count.f, mezzotintlaw08_count.j0, u0, u1, u2, u3, u4, u5, u6, u7, u8, u9, b0, b1, b2, b3, b4, b5, b6, b7, b8, b9, b10, b11, b12, b13]
theorem cell_lt {w : World} {a : Addr} {v : Value} (h : w.cell? a = some v) : a.block < w.heap.size := by
  by_cases hz : a.block < w.heap.size
  · exact hz
  · exfalso
    have : w.heap[a.block]? = none := Array.getElem?_eq_none (by omega)
    simp [World.cell?, this] at h
theorem cell_alloc {w : World} {a : Addr} {v : Value} (o : Obj) (h : w.cell? a = some v) : (w.alloc o).cell? a = some v := (World.cell?_alloc_some w a o (by rw [h]; rfl)).trans h
theorem block_add (a : Addr) (n : Nat) : (a.add n).block = a.block := by unfold Addr.add; split <;> rfl
theorem own_form {w : World} {base : Nat} {e : TypeId} {size : Nat} {v : Value} {n : Nat} {xs : List Value} (h : w.ownsRow base e size v n xs) : ∃ A c, v = .slice A n c := by
  rcases h.2 with ⟨rfl, rfl⟩ | ⟨g, cap, cur, rfl, _⟩
  · exact ⟨_, _, rfl⟩
  · exact ⟨_, _, rfl⟩
theorem obj_info : (Tryd.prog.info? 38).map (fun i => (i.zero, i.size, i.bytes)) = some (some (.agg #[.int .i64 0, .bool false, .int .i64 0, .int .i64 0, .string (⟨#[]⟩ : ByteArray), .int .i64 0, .int .i64 0, .int .i64 0]), 8, 72) := by kernel_rfl
theorem val_info : (Tryd.prog.info? 35).map (fun i => (i.zero, i.size, i.bytes)) = some (some (.agg #[.int .i64 0, .bool false, .int .i64 0, .int .i64 0, .string (⟨#[]⟩ : ByteArray), .pointer none, .pointer none, .pointer none, .int .i64 0, .int .i64 0]), 10, 88) := by kernel_rfl
theorem own_rd {w : World} {base : Nat} {e : TypeId} {size : Nat} {v : Value} {n : Nat} {xs : List Value} {N : Nat} {cs : Array Value} (h : w.ownsRow base e size v n xs) (hn : n = N) (h0 : 0 < N) (hx : xs = cs.toList) : ∃ g c, v = .slice (some ⟨g, 0, none⟩) N c ∧ N ≤ c ∧ base ≤ g ∧ Rd w g cs := by
  subst hn
  rcases h.2 with ⟨_, hz⟩ | ⟨g, cap, cur, hv, hb, hg, hc, _⟩
  · omega
  · have hk := h.lt g (by rw [hv]; rfl)
    have hcl := h.cells (g := g) (by rw [hv]; rfl)
    refine ⟨g, cap, hv, hc, hb, hk.2, fun i u hu => ?_⟩
    have := hcl i u (by rw [hx, Array.getElem?_toList]; exact hu)
    cases i with
    | zero => simpa [Addr.add] using this
    | succ i => simpa [Addr.add] using this
theorem own_below {w w' : World} {base : Nat} {e : TypeId} {size : Nat} {v : Value} {n : Nat} {xs : List Value} (h : w.ownsRow base e size v n xs) (hb : Below w.heap.size w w') : w'.ownsRow base e size v n xs := by
  refine ⟨h.1, ?_⟩
  rcases h.2 with hz | ⟨g, cap, cur, hv, hbg, hg, rest⟩
  · exact .inl hz
  · have hk := h.lt g (by rw [hv]; rfl)
    exact .inr ⟨g, cap, cur, hv, hbg, (hb.block g hk.2).trans hg, rest⟩
theorem Has.grown {w w' : World} {g : Nat} {cs : Array Value} {T : TypeId} {row : Option Nat} (h : Has w g cs T) (hg : w.grownBy w' row) (hne : some g ≠ row) : Has w' g cs T := (hg.block g h.lt hne).trans h
theorem new_cells {w : World} {cs : Array Value} {T : TypeId} (j : Nat) (u : Value) (h : cs.toList[j]? = some u) : (w.alloc (.cells cs T)).cell? ((⟨w.heap.size, 0, none⟩ : Addr).add j) = some u := by
  have hh : (w.alloc (.cells cs T)).cell? ⟨w.heap.size, j, none⟩ = some u := (Has.cell (Has.new w cs T rfl) j).trans (by rw [← h, Array.getElem?_toList])
  cases j with
  | zero => simpa [Addr.add] using hh
  | succ j => simpa [Addr.add] using hh
theorem one_o (k : Int) (x : Bool) (a n : Int) (s : ByteArray) (r f l : Int) : ∀ u ∈ (oC k x a n s r f l).toList, u.oneCell' = true := by
  intro u hu; simp only [List.mem_cons, List.not_mem_nil, or_false] at hu; rcases hu with rfl | rfl | rfl | rfl | rfl | rfl | rfl | rfl <;> rfl
theorem one_o2 (k : Int) (x : Bool) (a n : Int) (s : ByteArray) (r f l : Int) (j : Int) (y : Bool) (b m : Int) (t : ByteArray) (r2 f2 l2 : Int) : ∀ u ∈ (o2C k x a n s r f l j y b m t r2 f2 l2).toList, u.oneCell' = true := by
  intro u hu; simp only [List.mem_cons, List.not_mem_nil, or_false] at hu; rcases hu with rfl | rfl | rfl | rfl | rfl | rfl | rfl | rfl | rfl | rfl | rfl | rfl | rfl | rfl | rfl | rfl <;> rfl
theorem one_v (k : Int) (x : Bool) (a n : Int) (s : ByteArray) : ∀ u ∈ (vC k x a n s).toList, u.oneCell' = true := by
  intro u hu; simp only [List.mem_cons, List.not_mem_nil, or_false] at hu; rcases hu with rfl | rfl | rfl | rfl | rfl | rfl | rfl | rfl | rfl | rfl <;> rfl
end Go.Proofs.YtmbnlklinmmkdaaDoor.One
