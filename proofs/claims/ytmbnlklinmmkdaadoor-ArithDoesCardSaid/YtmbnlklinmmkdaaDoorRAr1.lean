import Derived.Test.YtmbnlklinmmkdaaDoorRUn
namespace Go.Proofs.YtmbnlklinmmkdaaDoor.One
open Go.RowKit Go.Proofs.YtmbnlklinmmkdaaDoorW.PrintWords Go.Proofs.YtmbnlklinmmkdaaDoorW.PrintLast Go.Proofs.YtmbnlklinmmkdaaDoorW.PrintMore
open Go.Proofs.YtmbnlklinmmkdaaDoor.Ref Go.Proofs.YtmbnlklinmmkdaaDoor.Bitw Go.Proofs.YtmbnlklinmmkdaaDoor.Sem Go.Proofs.YtmbnlklinmmkdaaDoor.Base Go.Proofs.YtmbnlklinmmkdaaDoor.Pure Go.Proofs.YtmbnlklinmmkdaaDoor.Leaf Go.Proofs.YtmbnlklinmmkdaaDoor.Turns Go.Proofs.YtmbnlklinmmkdaaDoor.MatA Go.Proofs.YtmbnlklinmmkdaaDoor.PArithDoes
set_option linter.unusedVariables false
theorem d10 {W : World} {B : Nat} {v0 v1 v2 v3 v4 v5 v6 v7 v8 v9 : Value} (h : Rd W B #[v0, v1, v2, v3, v4, v5, v6, v7, v8, v9]) : W.cell? ⟨B, 0, none⟩ = some v0 ∧ W.cell? ⟨B, 1, none⟩ = some v1 ∧ W.cell? ⟨B, 2, none⟩ = some v2 ∧ W.cell? ⟨B, 3, none⟩ = some v3 ∧ W.cell? ⟨B, 4, none⟩ = some v4 ∧ W.cell? ⟨B, 5, none⟩ = some v5 ∧ W.cell? ⟨B, 6, none⟩ = some v6 ∧ W.cell? ⟨B, 7, none⟩ = some v7 ∧ W.cell? ⟨B, 8, none⟩ = some v8 ∧ W.cell? ⟨B, 9, none⟩ = some v9 := ⟨h.2 0 _ rfl, h.2 1 _ rfl, h.2 2 _ rfl, h.2 3 _ rfl, h.2 4 _ rfl, h.2 5 _ rfl, h.2 6 _ rfl, h.2 7 _ rfl, h.2 8 _ rfl, h.2 9 _ rfl⟩
theorem d20 {W : World} {B : Nat} {v0 v1 v2 v3 v4 v5 v6 v7 v8 v9 v10 v11 v12 v13 v14 v15 v16 v17 v18 v19 : Value} (h : Rd W B #[v0, v1, v2, v3, v4, v5, v6, v7, v8, v9, v10, v11, v12, v13, v14, v15, v16, v17, v18, v19]) : W.cell? ⟨B, 0, none⟩ = some v0 ∧ W.cell? ⟨B, 1, none⟩ = some v1 ∧ W.cell? ⟨B, 2, none⟩ = some v2 ∧ W.cell? ⟨B, 3, none⟩ = some v3 ∧ W.cell? ⟨B, 4, none⟩ = some v4 ∧ W.cell? ⟨B, 5, none⟩ = some v5 ∧ W.cell? ⟨B, 6, none⟩ = some v6 ∧ W.cell? ⟨B, 7, none⟩ = some v7 ∧ W.cell? ⟨B, 8, none⟩ = some v8 ∧ W.cell? ⟨B, 9, none⟩ = some v9 ∧ W.cell? ⟨B, 10, none⟩ = some v10 ∧ W.cell? ⟨B, 11, none⟩ = some v11 ∧ W.cell? ⟨B, 12, none⟩ = some v12 ∧ W.cell? ⟨B, 13, none⟩ = some v13 ∧ W.cell? ⟨B, 14, none⟩ = some v14 ∧ W.cell? ⟨B, 15, none⟩ = some v15 ∧ W.cell? ⟨B, 16, none⟩ = some v16 ∧ W.cell? ⟨B, 17, none⟩ = some v17 ∧ W.cell? ⟨B, 18, none⟩ = some v18 ∧ W.cell? ⟨B, 19, none⟩ = some v19 := ⟨h.2 0 _ rfl, h.2 1 _ rfl, h.2 2 _ rfl, h.2 3 _ rfl, h.2 4 _ rfl, h.2 5 _ rfl, h.2 6 _ rfl, h.2 7 _ rfl, h.2 8 _ rfl, h.2 9 _ rfl, h.2 10 _ rfl, h.2 11 _ rfl, h.2 12 _ rfl, h.2 13 _ rfl, h.2 14 _ rfl, h.2 15 _ rfl, h.2 16 _ rfl, h.2 17 _ rfl, h.2 18 _ rfl, h.2 19 _ rfl⟩
abbrev v2C (k : Int) (x : Bool) (a n : Int) (s : ByteArray) (j : Int) (y : Bool) (b m : Int) (t : ByteArray) : Array Value := #[.int .i64 k, .bool x, .int .i64 a, .int .i64 n, .string s, .pointer none, .pointer none, .pointer none, .int .i64 0, .int .i64 0, .int .i64 j, .bool y, .int .i64 b, .int .i64 m, .string t, .pointer none, .pointer none, .pointer none, .int .i64 0, .int .i64 0]
set_option maxHeartbeats 3200000 in
set_option maxRecDepth 100000 in
theorem ar1T (nm : ByteArray) (B c : Nat) (k : Int) (x : Bool) (a n : Int) (s : ByteArray) (w : World) (hs : Rd w B (vC k x a n s)) (hq : ((nm.toList == [110, 111, 116]) = true)) (hT : isTruB k n = true) : Calls Tryd.prog 12 #[.string nm, .slice (some ⟨B, 0, none⟩) 1 c] w (GotV w (tv (n == 0))) := by
  have HB := Aside0.mk (Below.refl w.heap.size w)
  have HX := Aside0.mk (show Has (w.alloc (.cells (vC k x a n s) 35)) (w.heap.size) (vC k x a n s) 35 from Has.new _ _ _ rfl)
  obtain ⟨e0, e1, e2, e3, e4, e5, e6, e7, e8, e9⟩ := d10 hs
  clear hs
  have q0 := hq
  go_enter Tryd.func12, Tryd.ntmps12
  go_wp2_with (first | (go_at_call 18; ((with_reducible refine (vIsTruth k x a n s _).mono ?_); rintro e w1 ⟨rfl, hb⟩; rw [hT]; have nHX := Aside0.mk (show Has w1 (w.heap.size) (vC k x a n s) 35 from Has.below (by repeat (with_reducible first | exact HX.out | apply Has.alloc | apply Has.drewN)) hb); have nHB := Aside0.mk (below_step (w := w) (by repeat (with_reducible first | exact HB.out | apply below_alloc | apply pw_below_drewN)) hb); clear hb; clear HB; have HB := nHB; clear nHB; (try clear HX); have HX := nHX; clear nHX; obtain ⟨cHX0, cHX1, cHX2, cHX3, cHX4, cHX5, cHX6, cHX7, cHX8, cHX9, lHX⟩ := c10 HX.out; skip)) | (go_at_call 20; ((with_reducible refine (vTruth (n == 0) _).mono ?_); rintro e w3 ⟨rfl, hb⟩; have nHB := Aside0.mk (below_step (w := w) (by repeat (with_reducible first | exact HB.out | apply below_alloc | apply pw_below_drewN)) hb); clear hb; clear cHX0  cHX1  cHX2  cHX3  cHX4  cHX5  cHX6  cHX7  cHX8  cHX9  lHX; clear HB; have HB := nHB; clear nHB; skip)) | (go_at_call 19; ((with_reducible refine (vOne _ _ _).mono ?_); rintro e w4 ⟨g1, rfl, hg, hG, hb⟩; have hgg := Aside0.mk (Nat.le_trans (Below.size (show Below w.heap.size w _ from (by repeat (with_reducible first | exact HB.out | apply below_alloc | apply pw_below_drewN)))) hg); have HG := Aside0.mk hG; have nHB := Aside0.mk (below_step (w := w) (by repeat (with_reducible first | exact HB.out | apply below_alloc | apply pw_below_drewN)) hb); clear hg hG hb; clear HB; have HB := nHB; clear nHB; skip)))
  go_ret2
  exact ⟨g1, rfl, hgg.out, HG.out, HB.out⟩
set_option maxHeartbeats 3200000 in
set_option maxRecDepth 100000 in
theorem ar1I (nm : ByteArray) (B c : Nat) (k : Int) (x : Bool) (a n : Int) (s : ByteArray) (w : World) (hs : Rd w B (vC k x a n s)) (hq : ((nm.toList == [110, 111, 116]) = true)) (hT : isTruB k n = false) (hI : isIntB k n = true) (h1 : -2147483648 ≤ n) (h2 : n ≤ 2147483647) : Calls Tryd.prog 12 #[.string nm, .slice (some ⟨B, 0, none⟩) 1 c] w (GotV w ⟨1, -1 - n, 0⟩) := by
  have HB := Aside0.mk (Below.refl w.heap.size w)
  have HX := Aside0.mk (show Has (w.alloc (.cells (vC k x a n s) 35)) (w.heap.size) (vC k x a n s) 35 from Has.new _ _ _ rfl)
  obtain ⟨e0, e1, e2, e3, e4, e5, e6, e7, e8, e9⟩ := d10 hs
  clear hs
  have q0 := hq
  go_enter Tryd.func12, Tryd.ntmps12
  go_wp2_with (first | (go_at_call 18; ((with_reducible refine (vIsTruth k x a n s _).mono ?_); rintro e w1 ⟨rfl, hb⟩; rw [hT]; have nHX := Aside0.mk (show Has w1 (w.heap.size) (vC k x a n s) 35 from Has.below (by repeat (with_reducible first | exact HX.out | apply Has.alloc | apply Has.drewN)) hb); have nHB := Aside0.mk (below_step (w := w) (by repeat (with_reducible first | exact HB.out | apply below_alloc | apply pw_below_drewN)) hb); clear hb; clear HB; have HB := nHB; clear nHB; (try clear HX); have HX := nHX; clear nHX; obtain ⟨cHX0, cHX1, cHX2, cHX3, cHX4, cHX5, cHX6, cHX7, cHX8, cHX9, lHX⟩ := c10 HX.out; skip)) | (go_at_call 21; ((with_reducible refine (vIsInt k x a n s _).mono ?_); rintro e w2 ⟨rfl, hb⟩; rw [hI]; have nHX := Aside0.mk (show Has w2 (w.heap.size) (vC k x a n s) 35 from Has.below (by repeat (with_reducible first | exact HX.out | apply Has.alloc | apply Has.drewN)) hb); have nHB := Aside0.mk (below_step (w := w) (by repeat (with_reducible first | exact HB.out | apply below_alloc | apply pw_below_drewN)) hb); clear hb; clear cHX0  cHX1  cHX2  cHX3  cHX4  cHX5  cHX6  cHX7  cHX8  cHX9  lHX; clear HB; have HB := nHB; clear nHB; (try clear HX); have HX := nHX; clear nHX; obtain ⟨cHX0, cHX1, cHX2, cHX3, cHX4, cHX5, cHX6, cHX7, cHX8, cHX9, lHX⟩ := c10 HX.out; skip)) | (go_at_call 22; ((with_reducible refine (vWhole _ _).mono ?_); rintro e w3 ⟨rfl, hb⟩; have nHB := Aside0.mk (below_step (w := w) (by repeat (with_reducible first | exact HB.out | apply below_alloc | apply pw_below_drewN)) hb); clear hb; clear cHX0  cHX1  cHX2  cHX3  cHX4  cHX5  cHX6  cHX7  cHX8  cHX9  lHX; clear HB; have HB := nHB; clear nHB; skip)) | (go_at_call 19; ((with_reducible refine (vOne _ _ _).mono ?_); rintro e w4 ⟨g1, rfl, hg, hG, hb⟩; have hgg := Aside0.mk (Nat.le_trans (Below.size (show Below w.heap.size w _ from (by repeat (with_reducible first | exact HB.out | apply below_alloc | apply pw_below_drewN)))) hg); have HG := Aside0.mk hG; have nHB := Aside0.mk (below_step (w := w) (by repeat (with_reducible first | exact HB.out | apply below_alloc | apply pw_below_drewN)) hb); clear hg hG hb; clear HB; have HB := nHB; clear nHB; skip)))
  go_ret2
  exact ⟨g1, rfl, hgg.out, HG.out, HB.out⟩
set_option maxHeartbeats 3200000 in
set_option maxRecDepth 100000 in
theorem ar1B (nm : ByteArray) (B c : Nat) (k : Int) (x : Bool) (a n : Int) (s : ByteArray) (w : World) (hs : Rd w B (vC k x a n s)) (hq : ((nm.toList == [110, 111, 116]) = true)) (hT : isTruB k n = false) (hI : isIntB k n = false) : Calls Tryd.prog 12 #[.string nm, .slice (some ⟨B, 0, none⟩) 1 c] w (Fails w 16) := by
  have HB := Aside0.mk (Below.refl w.heap.size w)
  have HX := Aside0.mk (show Has (w.alloc (.cells (vC k x a n s) 35)) (w.heap.size) (vC k x a n s) 35 from Has.new _ _ _ rfl)
  obtain ⟨e0, e1, e2, e3, e4, e5, e6, e7, e8, e9⟩ := d10 hs
  clear hs
  have q0 := hq
  go_enter Tryd.func12, Tryd.ntmps12
  go_wp2_with (first | (go_at_call 18; ((with_reducible refine (vIsTruth k x a n s _).mono ?_); rintro e w1 ⟨rfl, hb⟩; rw [hT]; have nHX := Aside0.mk (show Has w1 (w.heap.size) (vC k x a n s) 35 from Has.below (by repeat (with_reducible first | exact HX.out | apply Has.alloc | apply Has.drewN)) hb); have nHB := Aside0.mk (below_step (w := w) (by repeat (with_reducible first | exact HB.out | apply below_alloc | apply pw_below_drewN)) hb); clear hb; clear HB; have HB := nHB; clear nHB; (try clear HX); have HX := nHX; clear nHX; obtain ⟨cHX0, cHX1, cHX2, cHX3, cHX4, cHX5, cHX6, cHX7, cHX8, cHX9, lHX⟩ := c10 HX.out; skip)) | (go_at_call 21; ((with_reducible refine (vIsInt k x a n s _).mono ?_); rintro e w2 ⟨rfl, hb⟩; rw [hI]; have nHX := Aside0.mk (show Has w2 (w.heap.size) (vC k x a n s) 35 from Has.below (by repeat (with_reducible first | exact HX.out | apply Has.alloc | apply Has.drewN)) hb); have nHB := Aside0.mk (below_step (w := w) (by repeat (with_reducible first | exact HB.out | apply below_alloc | apply pw_below_drewN)) hb); clear hb; clear cHX0  cHX1  cHX2  cHX3  cHX4  cHX5  cHX6  cHX7  cHX8  cHX9  lHX; clear HB; have HB := nHB; clear nHB; (try clear HX); have HX := nHX; clear nHX; obtain ⟨cHX0, cHX1, cHX2, cHX3, cHX4, cHX5, cHX6, cHX7, cHX8, cHX9, lHX⟩ := c10 HX.out; skip)))
  go_ret2
  exact ⟨rfl, HB.out⟩
set_option maxHeartbeats 3200000 in
set_option maxRecDepth 100000 in
theorem ar1N (nm : ByteArray) (B c : Nat) (k : Int) (x : Bool) (a n : Int) (s : ByteArray) (w : World) (hs : Rd w B (vC k x a n s)) (hq : ((nm.toList == [110, 111, 116]) = false)) (hN : isNumB k n = false) : Calls Tryd.prog 12 #[.string nm, .slice (some ⟨B, 0, none⟩) 1 c] w (Fails w 16) := by
  have HB := Aside0.mk (Below.refl w.heap.size w)
  have HX := Aside0.mk (show Has (w.alloc (.cells (vC k x a n s) 35)) (w.heap.size) (vC k x a n s) 35 from Has.new _ _ _ rfl)
  obtain ⟨e0, e1, e2, e3, e4, e5, e6, e7, e8, e9⟩ := d10 hs
  clear hs
  have q0 := hq
  go_enter Tryd.func12, Tryd.ntmps12
  go_wp2_with (go_at_call 15; ((with_reducible refine (vIsNumber k x a n s _).mono ?_); rintro e w1 ⟨rfl, hb⟩; rw [hN]; have nHX := Aside0.mk (show Has w1 (w.heap.size) (vC k x a n s) 35 from Has.below (by repeat (with_reducible first | exact HX.out | apply Has.alloc | apply Has.drewN)) hb); have nHB := Aside0.mk (below_step (w := w) (by repeat (with_reducible first | exact HB.out | apply below_alloc | apply pw_below_drewN)) hb); clear hb; clear HB; have HB := nHB; clear nHB; (try clear HX); have HX := nHX; clear nHX; obtain ⟨cHX0, cHX1, cHX2, cHX3, cHX4, cHX5, cHX6, cHX7, cHX8, cHX9, lHX⟩ := c10 HX.out; skip))
  go_ret2
  exact ⟨rfl, HB.out⟩
set_option maxHeartbeats 3200000 in
set_option maxRecDepth 100000 in
theorem ar1UOk (nm : ByteArray) (B c : Nat) (k : Int) (x : Bool) (a n : Int) (s : ByteArray) (w : World) (hs : Rd w B (vC k x a n s)) (hq : ((nm.toList == [110, 111, 116]) = false)) (hN : isNumB k n = true) (p : R3) (hc0 : ∀ W, Calls Tryd.prog 23 #[.string nm, vV k x a n s] W (GotV W p)) : Calls Tryd.prog 12 #[.string nm, .slice (some ⟨B, 0, none⟩) 1 c] w (GotV w p) := by
  have HB := Aside0.mk (Below.refl w.heap.size w)
  have HX := Aside0.mk (show Has (w.alloc (.cells (vC k x a n s) 35)) (w.heap.size) (vC k x a n s) 35 from Has.new _ _ _ rfl)
  obtain ⟨e0, e1, e2, e3, e4, e5, e6, e7, e8, e9⟩ := d10 hs
  clear hs
  have q0 := hq
  have hc := Aside0.mk hc0
  clear hc0
  go_enter Tryd.func12, Tryd.ntmps12
  go_wp2_with (first | (go_at_call 15; ((with_reducible refine (vIsNumber k x a n s _).mono ?_); rintro e w1 ⟨rfl, hb⟩; rw [hN]; have nHX := Aside0.mk (show Has w1 (w.heap.size) (vC k x a n s) 35 from Has.below (by repeat (with_reducible first | exact HX.out | apply Has.alloc | apply Has.drewN)) hb); have nHB := Aside0.mk (below_step (w := w) (by repeat (with_reducible first | exact HB.out | apply below_alloc | apply pw_below_drewN)) hb); clear hb; clear HB; have HB := nHB; clear nHB; (try clear HX); have HX := nHX; clear nHX; obtain ⟨cHX0, cHX1, cHX2, cHX3, cHX4, cHX5, cHX6, cHX7, cHX8, cHX9, lHX⟩ := c10 HX.out; skip)) | (go_at_call 23; ((with_reducible refine (hc.out _).mono ?_); rintro e w2 ⟨g1, rfl, hg, hG, hb⟩; have hgg := Aside0.mk (Nat.le_trans (Below.size (show Below w.heap.size w _ from (by repeat (with_reducible first | exact HB.out | apply below_alloc | apply pw_below_drewN)))) hg); have HG := Aside0.mk hG; have nHB := Aside0.mk (below_step (w := w) (by repeat (with_reducible first | exact HB.out | apply below_alloc | apply pw_below_drewN)) hb); clear hg hG hb; clear cHX0  cHX1  cHX2  cHX3  cHX4  cHX5  cHX6  cHX7  cHX8  cHX9  lHX; clear HB; have HB := nHB; clear nHB; skip)))
  go_ret2
  exact ⟨g1, rfl, hgg.out, HG.out, HB.out⟩
set_option maxHeartbeats 3200000 in
set_option maxRecDepth 100000 in
theorem ar1UNo (nm : ByteArray) (B c : Nat) (k : Int) (x : Bool) (a n : Int) (s : ByteArray) (w : World) (hs : Rd w B (vC k x a n s)) (hq : ((nm.toList == [110, 111, 116]) = false)) (hN : isNumB k n = true) (p : R3) (hc0 : ∀ W, Calls Tryd.prog 23 #[.string nm, vV k x a n s] W (Fails W p.e)) : Calls Tryd.prog 12 #[.string nm, .slice (some ⟨B, 0, none⟩) 1 c] w (Fails w p.e) := by
  have HB := Aside0.mk (Below.refl w.heap.size w)
  have HX := Aside0.mk (show Has (w.alloc (.cells (vC k x a n s) 35)) (w.heap.size) (vC k x a n s) 35 from Has.new _ _ _ rfl)
  obtain ⟨e0, e1, e2, e3, e4, e5, e6, e7, e8, e9⟩ := d10 hs
  clear hs
  have q0 := hq
  have hc := Aside0.mk hc0
  clear hc0
  go_enter Tryd.func12, Tryd.ntmps12
  go_wp2_with (first | (go_at_call 15; ((with_reducible refine (vIsNumber k x a n s _).mono ?_); rintro e w1 ⟨rfl, hb⟩; rw [hN]; have nHX := Aside0.mk (show Has w1 (w.heap.size) (vC k x a n s) 35 from Has.below (by repeat (with_reducible first | exact HX.out | apply Has.alloc | apply Has.drewN)) hb); have nHB := Aside0.mk (below_step (w := w) (by repeat (with_reducible first | exact HB.out | apply below_alloc | apply pw_below_drewN)) hb); clear hb; clear HB; have HB := nHB; clear nHB; (try clear HX); have HX := nHX; clear nHX; obtain ⟨cHX0, cHX1, cHX2, cHX3, cHX4, cHX5, cHX6, cHX7, cHX8, cHX9, lHX⟩ := c10 HX.out; skip)) | (go_at_call 23; ((with_reducible refine (hc.out _).mono ?_); rintro e w2 ⟨rfl, hb⟩; have nHB := Aside0.mk (below_step (w := w) (by repeat (with_reducible first | exact HB.out | apply below_alloc | apply pw_below_drewN)) hb); clear hb; clear HB; have HB := nHB; clear nHB; skip)))
  go_ret2
  exact ⟨rfl, HB.out⟩
end Go.Proofs.YtmbnlklinmmkdaaDoor.One
