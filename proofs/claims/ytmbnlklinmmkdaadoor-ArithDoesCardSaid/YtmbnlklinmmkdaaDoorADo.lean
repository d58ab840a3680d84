import Derived.Test.YtmbnlklinmmkdaaDoorATwo
import Derived.Deep.RegionHeld3
namespace Go.Proofs.YtmbnlklinmmkdaaDoor.One
open Go.RowKit Go.Proofs.YtmbnlklinmmkdaaDoorW.PrintWords Go.Proofs.YtmbnlklinmmkdaaDoorW.PrintLast Go.Proofs.YtmbnlklinmmkdaaDoorW.PrintMore
open Go.Proofs.YtmbnlklinmmkdaaDoor.Sem Go.Proofs.YtmbnlklinmmkdaaDoor.Base Go.Proofs.YtmbnlklinmmkdaaDoor.Pure Go.Proofs.YtmbnlklinmmkdaaDoor.Leaf Go.Proofs.YtmbnlklinmmkdaaDoor.Turns Go.Proofs.YtmbnlklinmmkdaaDoor.MatA Go.Proofs.YtmbnlklinmmkdaaDoor.PArithDoes
set_option linter.unusedVariables false
theorem known_un {nm : ByteArray} (u : Un) (hm : nm.toList = u.name) : arith_Known.f 1 nm = some (1, true) := by
  cases u <;> simp [arith_Known.f, arith_Known.j0, hm, Un.name]
theorem known_bi {nm : ByteArray} (o : Bi) (hm : nm.toList = o.name) : arith_Known.f 1 nm = some (2, true) := by
  cases o <;> simp [arith_Known.f, arith_Known.j0, hm, Bi.name]
theorem known_no {nm : ByteArray} (hU : ∀ u : Un, nm.toList ≠ u.name) (hB : ∀ o : Bi, nm.toList ≠ o.name) : arith_Known.f 1 nm = some (0, false) := by
  have u0 := hU .neg
  have u1 := hU .abs
  have u2 := hU .ceiling
  have u3 := hU .floor
  have u4 := hU .round
  have u5 := hU .truncate
  have u6 := hU .sqrt
  have u7 := hU .sin
  have u8 := hU .cos
  have u9 := hU .not
  have b0 := hB .add
  have b1 := hB .sub
  have b2 := hB .mul
  have b3 := hB .div
  have b4 := hB .idiv
  have b5 := hB .mod
  have b6 := hB .and
  have b7 := hB .or
  have b8 := hB .xor
  have b9 := hB .bitshift
  have b10 := hB .gt
  have b11 := hB .ge
  have b12 := hB .lt
  have b13 := hB .le
  simp only [Un.name, Bi.name] at u0 u1 u2 u3 u4 u5 u6 u7 u8 u9 b0 b1 b2 b3 b4 b5 b6 b7 b8 b9 b10 b11 b12 b13
  simp [arith_Known.f, arith_Known.j0, u0, u1, u2, u3, u4, u5, u6, u7, u8, u9, b0, b1, b2, b3, b4, b5, b6, b7, b8, b9, b10, b11, b12, b13]
def Rd (W : World) (B : Nat) (cs : Array Value) : Prop := B < W.heap.size ∧ ∀ i v, cs[i]? = some v → W.cell? ⟨B, i, none⟩ = some v
theorem Rd.of {W : World} {B : Nat} {cs : Array Value} {T : TypeId} (h : Has W B cs T) : Rd W B cs := ⟨h.lt, fun i v hv => (h.cell i).trans hv⟩
theorem Rd.below {W W' : World} {B : Nat} {cs : Array Value} (h : Rd W B cs) (hb : Below W.heap.size W W') : Rd W' B cs :=
  ⟨Nat.lt_of_lt_of_le h.1 hb.size, fun i v hv => (hb.cell (p := ⟨B, i, none⟩) h.1).trans (h.2 i v hv)⟩
theorem d8 {W : World} {B : Nat} {v0 v1 v2 v3 v4 v5 v6 v7 : Value} (h : Rd W B #[v0, v1, v2, v3, v4, v5, v6, v7]) : W.cell? ⟨B, 0, none⟩ = some v0 ∧ W.cell? ⟨B, 1, none⟩ = some v1 ∧ W.cell? ⟨B, 2, none⟩ = some v2 ∧ W.cell? ⟨B, 3, none⟩ = some v3 ∧ W.cell? ⟨B, 4, none⟩ = some v4 ∧ W.cell? ⟨B, 5, none⟩ = some v5 ∧ W.cell? ⟨B, 6, none⟩ = some v6 ∧ W.cell? ⟨B, 7, none⟩ = some v7 := ⟨h.2 0 _ rfl, h.2 1 _ rfl, h.2 2 _ rfl, h.2 3 _ rfl, h.2 4 _ rfl, h.2 5 _ rfl, h.2 6 _ rfl, h.2 7 _ rfl⟩
theorem d16 {W : World} {B : Nat} {v0 v1 v2 v3 v4 v5 v6 v7 v8 v9 v10 v11 v12 v13 v14 v15 : Value} (h : Rd W B #[v0, v1, v2, v3, v4, v5, v6, v7, v8, v9, v10, v11, v12, v13, v14, v15]) : W.cell? ⟨B, 0, none⟩ = some v0 ∧ W.cell? ⟨B, 1, none⟩ = some v1 ∧ W.cell? ⟨B, 2, none⟩ = some v2 ∧ W.cell? ⟨B, 3, none⟩ = some v3 ∧ W.cell? ⟨B, 4, none⟩ = some v4 ∧ W.cell? ⟨B, 5, none⟩ = some v5 ∧ W.cell? ⟨B, 6, none⟩ = some v6 ∧ W.cell? ⟨B, 7, none⟩ = some v7 ∧ W.cell? ⟨B, 8, none⟩ = some v8 ∧ W.cell? ⟨B, 9, none⟩ = some v9 ∧ W.cell? ⟨B, 10, none⟩ = some v10 ∧ W.cell? ⟨B, 11, none⟩ = some v11 ∧ W.cell? ⟨B, 12, none⟩ = some v12 ∧ W.cell? ⟨B, 13, none⟩ = some v13 ∧ W.cell? ⟨B, 14, none⟩ = some v14 ∧ W.cell? ⟨B, 15, none⟩ = some v15 := ⟨h.2 0 _ rfl, h.2 1 _ rfl, h.2 2 _ rfl, h.2 3 _ rfl, h.2 4 _ rfl, h.2 5 _ rfl, h.2 6 _ rfl, h.2 7 _ rfl, h.2 8 _ rfl, h.2 9 _ rfl, h.2 10 _ rfl, h.2 11 _ rfl, h.2 12 _ rfl, h.2 13 _ rfl, h.2 14 _ rfl, h.2 15 _ rfl⟩
abbrev pC (k n : Int) : Array Value := #[.int .i64 k, .bool false, .int .i64 0, .int .i64 n, .string (⟨#[]⟩ : ByteArray), .int .i64 0, .int .i64 0, .int .i64 0]
def Got (w : World) (r : R3) (e : Ending) (w' : World) : Prop := ∃ g, e = .returned (.tuple #[.slice (some ⟨g, 0, none⟩) 1 1, .int .i64 0]) ∧ w.heap.size ≤ g ∧ Has w' g (pC r.k r.n) 38 ∧ Below w.heap.size w w'
def Fails (w : World) (x : Int) (e : Ending) (w' : World) : Prop := e = .returned (.tuple #[.slice none 0 0, .int .i64 x]) ∧ Below w.heap.size w w'
set_option maxHeartbeats 3200000 in
set_option maxRecDepth 100000 in
theorem cDo1Ok (nm : ByteArray) (B c : Nat) (k : Int) (x : Bool) (a n : Int) (s : ByteArray) (r f l : Int) (w : World) (hk0 : arith_Known.f 1 nm = some (1, true)) (hc : 1 ≤ c) (hs : Rd w B (oC k x a n s r f l)) (p : R3) (he : p.e = 0) (hc0 : ∀ W, Below w.heap.size w W → Calls Tryd.prog 16 #[.string nm, oV k x a n s r f l] W fun e w' => e = .returned (outV p) ∧ Below W.heap.size W w') : Calls Tryd.prog 10 #[.string nm, .slice (some ⟨B, 0, none⟩) 1 c] w (Got w p) := by
  have hK := Aside0.mk hk0
  have hC := Aside0.mk hc0
  clear hk0 hc0
  have HS := Aside0.mk hs
  clear hs
  have e0 : (p.e != 0) = false := by simp [he]
  have HE := Aside0.mk he
  clear he
  have HB := Aside0.mk (Below.refl w.heap.size w)
  go_enter Tryd.func10, Tryd.ntmps10
  go_wp2_with (first | (go_at_call 7; ((with_reducible refine (arith_Known.calls 1 nm _ _ _ hK.out).mono ?_); rintro e w0 ⟨rfl, hd⟩; have hb0 := Aside0.mk (show Below w.heap.size w w0 from by obtain ⟨nd, rfl⟩ := hd; exact pw_below_drewN (Below.refl _ _) _); clear hd HB; have HB := hb0; clear hb0; have hz0 := HB.out.size; have hS := HS.out.below HB.out; have hlt := hS.1; have hne : w0.heap.size ≠ B := (by omega); obtain ⟨c0, c1, c2, c3, c4, c5, c6, c7⟩ := d8 hS; clear hS)) | (go_at_call 16; ((with_reducible refine (hC.out _ (by repeat (first | (with_reducible first | exact HB.out | apply below_alloc | apply pw_below_drewN | apply below_drew1) | (with_reducible refine below_set ?_ ?_) | omega))).mono ?_); rintro e w1 ⟨rfl, hb⟩; have nHR := Aside0.mk (show Has w1 (w0.heap.size) (zC) 38 from Has.below (by repeat (first | (with_reducible exact HR.out) | ((with_reducible refine Has.new _ _ _ ?_); (simp; done)) | (with_reducible first | apply Has.alloc | apply Has.drewN | apply Has.drew) | (with_reducible refine Has.far ?_ ?_ _) | (dsimp only; omega) | omega)) hb); have nHB := Aside0.mk (below_step (w := w) (by repeat (first | (with_reducible first | exact HB.out | apply below_alloc | apply pw_below_drewN | apply below_drew1) | (with_reducible refine below_set ?_ ?_) | omega)) hb); clear hb; clear HB; have HB := nHB; clear nHB; (try clear HR); have HR := nHR; clear nHR; obtain ⟨cHR0, cHR1, cHR2, cHR3, cHR4, cHR5, cHR6, cHR7, fHR0, fHR1, fHR2, fHR3, fHR4, fHR5, fHR6, fHR7, lHR⟩ := r8 HR.out; skip)))
  go_ret2
  exact ⟨w1.heap.size, rfl, by have := HR.out.lt; have := HB.out.size; omega, Has.new _ _ _ (by simp), (by repeat (first | (with_reducible first | exact HB.out | apply below_alloc | apply pw_below_drewN | apply below_drew1) | (with_reducible refine below_set ?_ ?_) | omega))⟩
set_option maxHeartbeats 3200000 in
set_option maxRecDepth 100000 in
theorem cDo1No (nm : ByteArray) (B c : Nat) (k : Int) (x : Bool) (a n : Int) (s : ByteArray) (r f l : Int) (w : World) (hk0 : arith_Known.f 1 nm = some (1, true)) (hc : 1 ≤ c) (hs : Rd w B (oC k x a n s r f l)) (p : R3) (he : p.e ≠ 0) (hc0 : ∀ W, Below w.heap.size w W → Calls Tryd.prog 16 #[.string nm, oV k x a n s r f l] W fun e w' => e = .returned (outV p) ∧ Below W.heap.size W w') : Calls Tryd.prog 10 #[.string nm, .slice (some ⟨B, 0, none⟩) 1 c] w (Fails w p.e) := by
  have hK := Aside0.mk hk0
  have hC := Aside0.mk hc0
  clear hk0 hc0
  have HS := Aside0.mk hs
  clear hs
  have e0 : (p.e != 0) = true := by simp [he]
  have HE := Aside0.mk he
  clear he
  have HB := Aside0.mk (Below.refl w.heap.size w)
  go_enter Tryd.func10, Tryd.ntmps10
  go_wp2_with (first | (go_at_call 7; ((with_reducible refine (arith_Known.calls 1 nm _ _ _ hK.out).mono ?_); rintro e w0 ⟨rfl, hd⟩; have hb0 := Aside0.mk (show Below w.heap.size w w0 from by obtain ⟨nd, rfl⟩ := hd; exact pw_below_drewN (Below.refl _ _) _); clear hd HB; have HB := hb0; clear hb0; have hz0 := HB.out.size; have hS := HS.out.below HB.out; have hlt := hS.1; have hne : w0.heap.size ≠ B := (by omega); obtain ⟨c0, c1, c2, c3, c4, c5, c6, c7⟩ := d8 hS; clear hS)) | (go_at_call 16; ((with_reducible refine (hC.out _ (by repeat (first | (with_reducible first | exact HB.out | apply below_alloc | apply pw_below_drewN | apply below_drew1) | (with_reducible refine below_set ?_ ?_) | omega))).mono ?_); rintro e w1 ⟨rfl, hb⟩; have nHR := Aside0.mk (show Has w1 (w0.heap.size) (zC) 38 from Has.below (by repeat (first | (with_reducible exact HR.out) | ((with_reducible refine Has.new _ _ _ ?_); (simp; done)) | (with_reducible first | apply Has.alloc | apply Has.drewN | apply Has.drew) | (with_reducible refine Has.far ?_ ?_ _) | (dsimp only; omega) | omega)) hb); have nHB := Aside0.mk (below_step (w := w) (by repeat (first | (with_reducible first | exact HB.out | apply below_alloc | apply pw_below_drewN | apply below_drew1) | (with_reducible refine below_set ?_ ?_) | omega)) hb); clear hb; clear HB; have HB := nHB; clear nHB; (try clear HR); have HR := nHR; clear nHR; obtain ⟨cHR0, cHR1, cHR2, cHR3, cHR4, cHR5, cHR6, cHR7, fHR0, fHR1, fHR2, fHR3, fHR4, fHR5, fHR6, fHR7, lHR⟩ := r8 HR.out; skip)))
  go_ret2
  exact ⟨rfl, (by repeat (first | (with_reducible first | exact HB.out | apply below_alloc | apply pw_below_drewN | apply below_drew1) | (with_reducible refine below_set ?_ ?_) | omega))⟩
set_option maxHeartbeats 3200000 in
set_option maxRecDepth 100000 in
theorem cDo2Ok (nm : ByteArray) (B c : Nat) (k : Int) (x : Bool) (a n : Int) (s : ByteArray) (r f l : Int) (j : Int) (y : Bool) (b m : Int) (t : ByteArray) (r2 f2 l2 : Int) (w : World) (hk0 : arith_Known.f 1 nm = some (2, true)) (hc : 2 ≤ c) (hs : Rd w B (o2C k x a n s r f l j y b m t r2 f2 l2)) (p : R3) (he : p.e = 0) (hc0 : ∀ W, Below w.heap.size w W → Calls Tryd.prog 17 #[.string nm, oV k x a n s r f l, oV j y b m t r2 f2 l2] W fun e w' => e = .returned (outV p) ∧ Below W.heap.size W w') : Calls Tryd.prog 10 #[.string nm, .slice (some ⟨B, 0, none⟩) 2 c] w (Got w p) := by
  have hK := Aside0.mk hk0
  have hC := Aside0.mk hc0
  clear hk0 hc0
  have HS := Aside0.mk hs
  clear hs
  have e0 : (p.e != 0) = false := by simp [he]
  have HE := Aside0.mk he
  clear he
  have HB := Aside0.mk (Below.refl w.heap.size w)
  go_enter Tryd.func10, Tryd.ntmps10
  go_upto_region 8 with (go_at_call 7; ((with_reducible refine (arith_Known.calls 1 nm _ _ _ hK.out).mono ?_); rintro e w0 ⟨rfl, hd⟩; have hb0 := Aside0.mk (show Below w.heap.size w w0 from by obtain ⟨nd, rfl⟩ := hd; exact pw_below_drewN (Below.refl _ _) _); clear hd HB; have HB := hb0; clear hb0; have hz0 := HB.out.size; have hS := HS.out.below HB.out; have hlt := hS.1; have hne : w0.heap.size ≠ B := (by omega); obtain ⟨c0, c1, c2, c3, c4, c5, c6, c7, c8, c9, c10, c11, c12, c13, c14, c15⟩ := d16 hS; clear hS))
  go_region_held3 (fun w' => w'.cell? ⟨B, 0, none⟩ = some (.int .i64 k) ∧ w'.cell? ⟨B, 1, none⟩ = some (.bool x) ∧ w'.cell? ⟨B, 2, none⟩ = some (.int .i64 a) ∧ w'.cell? ⟨B, 3, none⟩ = some (.int .i64 n) ∧ w'.cell? ⟨B, 4, none⟩ = some (.string s) ∧ w'.cell? ⟨B, 5, none⟩ = some (.int .i64 r) ∧ w'.cell? ⟨B, 6, none⟩ = some (.int .i64 f) ∧ w'.cell? ⟨B, 7, none⟩ = some (.int .i64 l) ∧ w'.cell? ⟨B, 8, none⟩ = some (.int .i64 j) ∧ w'.cell? ⟨B, 9, none⟩ = some (.bool y) ∧ w'.cell? ⟨B, 10, none⟩ = some (.int .i64 b) ∧ w'.cell? ⟨B, 11, none⟩ = some (.int .i64 m) ∧ w'.cell? ⟨B, 12, none⟩ = some (.string t) ∧ w'.cell? ⟨B, 13, none⟩ = some (.int .i64 r2) ∧ w'.cell? ⟨B, 14, none⟩ = some (.int .i64 f2) ∧ w'.cell? ⟨B, 15, none⟩ = some (.int .i64 l2)) (first | (with_reducible exact ⟨c0, c1, c2, c3, c4, c5, c6, c7, c8, c9, c10, c11, c12, c13, c14, c15⟩) | go_keep) ((go_at_call 17; ((with_reducible refine (hC.out _ (by repeat (first | (with_reducible first | exact HB.out | apply below_alloc | apply pw_below_drewN | apply below_drew1) | (with_reducible refine below_set ?_ ?_) | omega))).mono ?_); rintro e w1 ⟨rfl, hb⟩; have nHR := Aside0.mk (show Has w1 (w0.heap.size) (zC) 38 from Has.below (by repeat (first | (with_reducible exact HR.out) | ((with_reducible refine Has.new _ _ _ ?_); (simp; done)) | (with_reducible first | apply Has.alloc | apply Has.drewN | apply Has.drew) | (with_reducible refine Has.far ?_ ?_ _) | (dsimp only; omega) | omega)) hb); have nHB := Aside0.mk (below_step (w := w) (by repeat (first | (with_reducible first | exact HB.out | apply below_alloc | apply pw_below_drewN | apply below_drew1) | (with_reducible refine below_set ?_ ?_) | omega)) hb); clear hb; clear HB; have HB := nHB; clear nHB; (try clear HR); have HR := nHR; clear nHR; obtain ⟨cHR0, cHR1, cHR2, cHR3, cHR4, cHR5, cHR6, cHR7, fHR0, fHR1, fHR2, fHR3, fHR4, fHR5, fHR6, fHR7, lHR⟩ := r8 HR.out; clear c0 c1 c2 c3 c4 c5 c6 c7 c8 c9 c10 c11 c12 c13 c14 c15; obtain ⟨c0, c1, c2, c3, c4, c5, c6, c7, c8, c9, c10, c11, c12, c13, c14, c15⟩ := d16 (HS.out.below HB.out))))
  go_wp2
  go_ret2
  exact ⟨w1.heap.size, rfl, by have := HR.out.lt; have := HB.out.size; omega, Has.new _ _ _ (by simp), (by repeat (first | (with_reducible first | exact HB.out | apply below_alloc | apply pw_below_drewN | apply below_drew1) | (with_reducible refine below_set ?_ ?_) | omega))⟩
set_option maxHeartbeats 3200000 in
set_option maxRecDepth 100000 in
theorem cDo2No (nm : ByteArray) (B c : Nat) (k : Int) (x : Bool) (a n : Int) (s : ByteArray) (r f l : Int) (j : Int) (y : Bool) (b m : Int) (t : ByteArray) (r2 f2 l2 : Int) (w : World) (hk0 : arith_Known.f 1 nm = some (2, true)) (hc : 2 ≤ c) (hs : Rd w B (o2C k x a n s r f l j y b m t r2 f2 l2)) (p : R3) (he : p.e ≠ 0) (hc0 : ∀ W, Below w.heap.size w W → Calls Tryd.prog 17 #[.string nm, oV k x a n s r f l, oV j y b m t r2 f2 l2] W fun e w' => e = .returned (outV p) ∧ Below W.heap.size W w') : Calls Tryd.prog 10 #[.string nm, .slice (some ⟨B, 0, none⟩) 2 c] w (Fails w p.e) := by
  have hK := Aside0.mk hk0
  have hC := Aside0.mk hc0
  clear hk0 hc0
  have HS := Aside0.mk hs
  clear hs
  have e0 : (p.e != 0) = true := by simp [he]
  have HE := Aside0.mk he
  clear he
  have HB := Aside0.mk (Below.refl w.heap.size w)
  go_enter Tryd.func10, Tryd.ntmps10
  go_upto_region 8 with (go_at_call 7; ((with_reducible refine (arith_Known.calls 1 nm _ _ _ hK.out).mono ?_); rintro e w0 ⟨rfl, hd⟩; have hb0 := Aside0.mk (show Below w.heap.size w w0 from by obtain ⟨nd, rfl⟩ := hd; exact pw_below_drewN (Below.refl _ _) _); clear hd HB; have HB := hb0; clear hb0; have hz0 := HB.out.size; have hS := HS.out.below HB.out; have hlt := hS.1; have hne : w0.heap.size ≠ B := (by omega); obtain ⟨c0, c1, c2, c3, c4, c5, c6, c7, c8, c9, c10, c11, c12, c13, c14, c15⟩ := d16 hS; clear hS))
  go_region_held3 (fun w' => w'.cell? ⟨B, 0, none⟩ = some (.int .i64 k) ∧ w'.cell? ⟨B, 1, none⟩ = some (.bool x) ∧ w'.cell? ⟨B, 2, none⟩ = some (.int .i64 a) ∧ w'.cell? ⟨B, 3, none⟩ = some (.int .i64 n) ∧ w'.cell? ⟨B, 4, none⟩ = some (.string s) ∧ w'.cell? ⟨B, 5, none⟩ = some (.int .i64 r) ∧ w'.cell? ⟨B, 6, none⟩ = some (.int .i64 f) ∧ w'.cell? ⟨B, 7, none⟩ = some (.int .i64 l) ∧ w'.cell? ⟨B, 8, none⟩ = some (.int .i64 j) ∧ w'.cell? ⟨B, 9, none⟩ = some (.bool y) ∧ w'.cell? ⟨B, 10, none⟩ = some (.int .i64 b) ∧ w'.cell? ⟨B, 11, none⟩ = some (.int .i64 m) ∧ w'.cell? ⟨B, 12, none⟩ = some (.string t) ∧ w'.cell? ⟨B, 13, none⟩ = some (.int .i64 r2) ∧ w'.cell? ⟨B, 14, none⟩ = some (.int .i64 f2) ∧ w'.cell? ⟨B, 15, none⟩ = some (.int .i64 l2)) (first | (with_reducible exact ⟨c0, c1, c2, c3, c4, c5, c6, c7, c8, c9, c10, c11, c12, c13, c14, c15⟩) | go_keep) ((go_at_call 17; ((with_reducible refine (hC.out _ (by repeat (first | (with_reducible first | exact HB.out | apply below_alloc | apply pw_below_drewN | apply below_drew1) | (with_reducible refine below_set ?_ ?_) | omega))).mono ?_); rintro e w1 ⟨rfl, hb⟩; have nHR := Aside0.mk (show Has w1 (w0.heap.size) (zC) 38 from Has.below (by repeat (first | (with_reducible exact HR.out) | ((with_reducible refine Has.new _ _ _ ?_); (simp; done)) | (with_reducible first | apply Has.alloc | apply Has.drewN | apply Has.drew) | (with_reducible refine Has.far ?_ ?_ _) | (dsimp only; omega) | omega)) hb); have nHB := Aside0.mk (below_step (w := w) (by repeat (first | (with_reducible first | exact HB.out | apply below_alloc | apply pw_below_drewN | apply below_drew1) | (with_reducible refine below_set ?_ ?_) | omega)) hb); clear hb; clear HB; have HB := nHB; clear nHB; (try clear HR); have HR := nHR; clear nHR; obtain ⟨cHR0, cHR1, cHR2, cHR3, cHR4, cHR5, cHR6, cHR7, fHR0, fHR1, fHR2, fHR3, fHR4, fHR5, fHR6, fHR7, lHR⟩ := r8 HR.out; clear c0 c1 c2 c3 c4 c5 c6 c7 c8 c9 c10 c11 c12 c13 c14 c15; obtain ⟨c0, c1, c2, c3, c4, c5, c6, c7, c8, c9, c10, c11, c12, c13, c14, c15⟩ := d16 (HS.out.below HB.out))))
  go_wp2
  go_ret2
  exact ⟨rfl, (by repeat (first | (with_reducible first | exact HB.out | apply below_alloc | apply pw_below_drewN | apply below_drew1) | (with_reducible refine below_set ?_ ?_) | omega))⟩
set_option maxHeartbeats 1600000 in
set_option maxRecDepth 100000 in
theorem cDoNo (nm : ByteArray) (A : Option Addr) (len c : Nat) (z : Int) (b : Bool) (w : World) (hk0 : arith_Known.f 1 nm = some (z, b)) (hl : len ≤ 9223372036854775807) (h0 : b = false ∨ z ≠ (len : Int)) :
    Calls Tryd.prog 10 #[.string nm, .slice A len c] w (Fails w 21) := by
  have hK := Aside0.mk hk0
  clear hk0
  have HB := Aside0.mk (Below.refl w.heap.size w)
  cases b
  · clear h0
    go_enter Tryd.func10, Tryd.ntmps10
    go_wp2_with (go_at_call 7; ((with_reducible refine (arith_Known.calls 1 nm _ _ _ hK.out).mono ?_); rintro e w0 ⟨rfl, hd⟩; have hb0 := Aside0.mk (show Below w.heap.size w w0 from by obtain ⟨nd, rfl⟩ := hd; exact pw_below_drewN (Below.refl _ _) _); clear hd HB; have HB := hb0; clear hb0; have hz0 := HB.out.size))
    go_ret2
    exact ⟨rfl, HB.out⟩
  · have e1 : (z != (len : Int)) = true := bne_iff_ne.mpr (by rcases h0 with h | h; (· cases h); exact h)
    clear h0
    go_enter Tryd.func10, Tryd.ntmps10
    go_wp2_with (go_at_call 7; ((with_reducible refine (arith_Known.calls 1 nm _ _ _ hK.out).mono ?_); rintro e w0 ⟨rfl, hd⟩; have hb0 := Aside0.mk (show Below w.heap.size w w0 from by obtain ⟨nd, rfl⟩ := hd; exact pw_below_drewN (Below.refl _ _) _); clear hd HB; have HB := hb0; clear hb0; have hz0 := HB.out.size))
    go_ret2
    exact ⟨rfl, HB.out⟩
end Go.Proofs.YtmbnlklinmmkdaaDoor.One
