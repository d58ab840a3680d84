-- Walks that print.sh wrote for ArithDoes, mended; what the claim does not use is struck out.
import Derived.Test.YtmbnlklinmmkdaaDoorQ0
import Derived.Test.YtmbnlklinmmkdaaDoorQ1
import Derived.Test.YtmbnlklinmmkdaaDoorQ2
import Derived.Test.YtmbnlklinmmkdaaDoorQ4
import Derived.Test.YtmbnlklinmmkdaaDoorQ5
namespace Go.Proofs.YtmbnlklinmmkdaaDoor.PArithDoes
open Go.RowKit Go.Proofs.YtmbnlklinmmkdaaDoorW.PrintWords Go.Proofs.YtmbnlklinmmkdaaDoorW.PrintLast Go.Proofs.YtmbnlklinmmkdaaDoorW.PrintMore
attribute [local go_sem] max2_int min2_int max_two min_two max_three min_three max_four min_four   -- for this text's walks alone
set_option linter.unusedVariables false
set_option linter.unusedSimpArgs false
mutual
def arith_sums.j0 : Nat → ByteArray → Bool → Int → Bool → Int → Int → ByteArray → Int → Int → Int → Int → Bool → Int → Int → ByteArray → Int → Int → Int → Option (Int × Bool × Int × Int × ByteArray × Int × Int × Int × Int)
  | 0, _, _, _, _, _, _, _, _, _, _, _, _, _, _, _, _, _, _ => none
  | k + 1, x0, x22, x315000, x315001, x315002, x315003, x315004, x315005, x315006, x315007, x316000, x316001, x316002, x316003, x316004, x316005, x316006, x316007 => if x22 = true then ((arith_exact.f x0 x315003 x316003).bind fun t319 => ((arith_small.f t319).bind fun t320 => (if t320 = true then ((arith_whole.f t319).bind fun bt321 => (some (bt321.1, bt321.2.1, bt321.2.2.1, bt321.2.2.2.1, bt321.2.2.2.2.1, bt321.2.2.2.2.2.1, bt321.2.2.2.2.2.2.1, bt321.2.2.2.2.2.2.2, 0))) else (arith_sums.j1 k x0 x315000 x315001 x315002 x315003 x315004 x315005 x315006 x315007 x316000 x316001 x316002 x316003 x316004 x316005 x316006 x316007)))) else (arith_sums.j1 k x0 x315000 x315001 x315002 x315003 x315004 x315005 x315006 x315007 x316000 x316001 x316002 x316003 x316004 x316005 x316006 x316007)
def arith_sums.j1 : Nat → ByteArray → Int → Bool → Int → Int → ByteArray → Int → Int → Int → Int → Bool → Int → Int → ByteArray → Int → Int → Int → Option (Int × Bool × Int × Int × ByteArray × Int × Int × Int × Int)
  | 0, _, _, _, _, _, _, _, _, _, _, _, _, _, _, _, _, _ => none
  | k + 1, x0, x315000, x315001, x315002, x315003, x315004, x315005, x315006, x315007, x316000, x316001, x316002, x316003, x316004, x316005, x316006, x316007 => (arith_asReal.f x315000 x315001 x315002 x315003 x315004 x315005 x315006 x315007).bind fun bt329 => (if bt329.2 = 0 then ((arith_asReal.f x316000 x316001 x316002 x316003 x316004 x316005 x316006 x316007).bind fun bt331 => (if bt331.2 = 0 then ((arith_inexact.f k x0 bt329.1 bt331.1).bind fun bt333 => (if bt333.2 = 0 then ((arith_real.f bt333.1).bind fun bt335 => (some (bt335.1, bt335.2.1, bt335.2.2.1, bt335.2.2.2.1, bt335.2.2.2.2.1, bt335.2.2.2.2.2.1, bt335.2.2.2.2.2.2.1, bt335.2.2.2.2.2.2.2, 0))) else (some (0, false, 0, 0, (⟨#[]⟩ : ByteArray), 0, 0, 0, bt333.2)))) else (some (0, false, 0, 0, (⟨#[]⟩ : ByteArray), 0, 0, 0, bt331.2)))) else (some (0, false, 0, 0, (⟨#[]⟩ : ByteArray), 0, 0, 0, bt329.2)))
end
def arith_sums.f (k : Nat) (a0 : ByteArray) (a1_0 : Int) (a1_1 : Bool) (a1_2 : Int) (a1_3 : Int) (a1_4 : ByteArray) (a1_5 : Int) (a1_6 : Int) (a1_7 : Int) (a2_0 : Int) (a2_1 : Bool) (a2_2 : Int) (a2_3 : Int) (a2_4 : ByteArray) (a2_5 : Int) (a2_6 : Int) (a2_7 : Int) : Option (Int × Bool × Int × Int × ByteArray × Int × Int × Int × Int) := if a0.toList = ([100, 105, 118] : List UInt8) then (arith_sums.j0 k a0 false a1_0 a1_1 a1_2 a1_3 a1_4 a1_5 a1_6 a1_7 a2_0 a2_1 a2_2 a2_3 a2_4 a2_5 a2_6 a2_7) else ((arith_isInt.f a1_0 a1_1 a1_2 a1_3 a1_4 a1_5 a1_6 a1_7).bind fun t317 => (if t317 = true then ((arith_isInt.f a2_0 a2_1 a2_2 a2_3 a2_4 a2_5 a2_6 a2_7).bind fun t318 => (arith_sums.j0 k a0 t318 a1_0 a1_1 a1_2 a1_3 a1_4 a1_5 a1_6 a1_7 a2_0 a2_1 a2_2 a2_3 a2_4 a2_5 a2_6 a2_7)) else (arith_sums.j0 k a0 false a1_0 a1_1 a1_2 a1_3 a1_4 a1_5 a1_6 a1_7 a2_0 a2_1 a2_2 a2_3 a2_4 a2_5 a2_6 a2_7)))
theorem arith_sums.mono_l : ∀ k, (∀ y0 y1 y2 y3 y4 y5 y6 y7 y8 y9 y10 y11 y12 y13 y14 y15 y16 y17, LeO (arith_sums.j0 k y0 y1 y2 y3 y4 y5 y6 y7 y8 y9 y10 y11 y12 y13 y14 y15 y16 y17) (arith_sums.j0 (k + 1) y0 y1 y2 y3 y4 y5 y6 y7 y8 y9 y10 y11 y12 y13 y14 y15 y16 y17)) ∧ (∀ y0 y1 y2 y3 y4 y5 y6 y7 y8 y9 y10 y11 y12 y13 y14 y15 y16, LeO (arith_sums.j1 k y0 y1 y2 y3 y4 y5 y6 y7 y8 y9 y10 y11 y12 y13 y14 y15 y16) (arith_sums.j1 (k + 1) y0 y1 y2 y3 y4 y5 y6 y7 y8 y9 y10 y11 y12 y13 y14 y15 y16))
  | 0 => ⟨fun _ _ _ _ _ _ _ _ _ _ _ _ _ _ _ _ _ _ r h => by simp [arith_sums.j0] at h, fun _ _ _ _ _ _ _ _ _ _ _ _ _ _ _ _ _ r h => by simp [arith_sums.j1] at h⟩
  | k + 1 => by
    obtain ⟨ih0, ih1⟩ := arith_sums.mono_l k
    refine ⟨?_, ?_⟩
    · intro y0 y1 y2 y3 y4 y5 y6 y7 y8 y9 y10 y11 y12 y13 y14 y15 y16 y17
      unfold arith_sums.j0
      repeat' first
      | (with_reducible exact ih0 _ _ _ _ _ _ _ _ _ _ _ _ _ _ _ _ _ _)
      | (with_reducible exact ih1 _ _ _ _ _ _ _ _ _ _ _ _ _ _ _ _ _)
      | (with_reducible exact arith_inexact.mono _ _ _ _)
      | (with_reducible exact LeO.refl _)
      | (with_reducible exact LeO.none _)
      | (with_reducible refine LeO.ite ?_ ?_)
      | (with_reducible refine LeO.bind ?_ (fun _ => ?_))
      | exact ih0 _ _ _ _ _ _ _ _ _ _ _ _ _ _ _ _ _ _
      | exact ih1 _ _ _ _ _ _ _ _ _ _ _ _ _ _ _ _ _
      | exact arith_inexact.mono _ _ _ _
      | exact LeO.none _
      | refine LeO.ite ?_ ?_
      | refine LeO.bind ?_ (fun _ => ?_)
    · intro y0 y1 y2 y3 y4 y5 y6 y7 y8 y9 y10 y11 y12 y13 y14 y15 y16
      unfold arith_sums.j1
      repeat' first
      | (with_reducible exact ih0 _ _ _ _ _ _ _ _ _ _ _ _ _ _ _ _ _ _)
      | (with_reducible exact ih1 _ _ _ _ _ _ _ _ _ _ _ _ _ _ _ _ _)
      | (with_reducible exact arith_inexact.mono _ _ _ _)
      | (with_reducible exact LeO.refl _)
      | (with_reducible exact LeO.none _)
      | (with_reducible refine LeO.ite ?_ ?_)
      | (with_reducible refine LeO.bind ?_ (fun _ => ?_))
      | exact ih0 _ _ _ _ _ _ _ _ _ _ _ _ _ _ _ _ _ _
      | exact ih1 _ _ _ _ _ _ _ _ _ _ _ _ _ _ _ _ _
      | exact arith_inexact.mono _ _ _ _
      | exact LeO.none _
      | refine LeO.ite ?_ ?_
      | refine LeO.bind ?_ (fun _ => ?_)
theorem arith_sums.mono : ∀ a0 a1 a2 a3 a4 a5 a6 a7 a8 a9 a10 a11 a12 a13 a14 a15 a16 k, LeO (arith_sums.f k a0 a1 a2 a3 a4 a5 a6 a7 a8 a9 a10 a11 a12 a13 a14 a15 a16) (arith_sums.f (k + 1) a0 a1 a2 a3 a4 a5 a6 a7 a8 a9 a10 a11 a12 a13 a14 a15 a16) := by
  intro a0 a1 a2 a3 a4 a5 a6 a7 a8 a9 a10 a11 a12 a13 a14 a15 a16 k
  obtain ⟨ih0, ih1⟩ := arith_sums.mono_l k
  unfold arith_sums.f
  repeat' first
      | (with_reducible exact ih0 _ _ _ _ _ _ _ _ _ _ _ _ _ _ _ _ _ _)
      | (with_reducible exact ih1 _ _ _ _ _ _ _ _ _ _ _ _ _ _ _ _ _)
      | (with_reducible exact arith_inexact.mono _ _ _ _)
      | (with_reducible exact LeO.refl _)
      | (with_reducible exact LeO.none _)
      | (with_reducible refine LeO.ite ?_ ?_)
      | (with_reducible refine LeO.bind ?_ (fun _ => ?_))
      | exact ih0 _ _ _ _ _ _ _ _ _ _ _ _ _ _ _ _ _ _
      | exact ih1 _ _ _ _ _ _ _ _ _ _ _ _ _ _ _ _ _
      | exact arith_inexact.mono _ _ _ _
      | exact LeO.none _
      | refine LeO.ite ?_ ?_
      | refine LeO.bind ?_ (fun _ => ?_)
set_option maxHeartbeats 8000000 in
set_option maxRecDepth 100000 in
theorem arith_sums.calls (k : Nat) (a0 : ByteArray) (a1_0 : Int) (a1_1 : Bool) (a1_2 : Int) (a1_3 : Int) (a1_4 : ByteArray) (a1_5 : Int) (a1_6 : Int) (a1_7 : Int) (a2_0 : Int) (a2_1 : Bool) (a2_2 : Int) (a2_3 : Int) (a2_4 : ByteArray) (a2_5 : Int) (a2_6 : Int) (a2_7 : Int) (r1 : Int) (r2 : Bool) (r3 : Int) (r4 : Int) (r5 : ByteArray) (r6 : Int) (r7 : Int) (r8 : Int) (r9 : Int) (w : World) (h : arith_sums.f k a0 a1_0 a1_1 a1_2 a1_3 a1_4 a1_5 a1_6 a1_7 a2_0 a2_1 a2_2 a2_3 a2_4 a2_5 a2_6 a2_7 = some (r1, r2, r3, r4, r5, r6, r7, r8, r9)) :
    Calls Tryd.prog 50 #[.string a0, .agg #[.int .i64 a1_0, .bool a1_1, .int .i64 a1_2, .int .i64 a1_3, .string a1_4, .int .i64 a1_5, .int .i64 a1_6, .int .i64 a1_7], .agg #[.int .i64 a2_0, .bool a2_1, .int .i64 a2_2, .int .i64 a2_3, .string a2_4, .int .i64 a2_5, .int .i64 a2_6, .int .i64 a2_7]] w fun e w' => e = .returned (.tuple #[.agg #[.int .i64 r1, .bool r2, .int .i64 r3, .int .i64 r4, .string r5, .int .i64 r6, .int .i64 r7, .int .i64 r8], .int .i64 r9]) ∧ Below w.heap.size w w' := by
  have hu38 := Tryd.underlying38
  have HB := Aside0.mk (Below.refl w.heap.size w)
  have H : (if a0.toList = ([100, 105, 118] : List UInt8) then (arith_sums.j0 k a0 false a1_0 a1_1 a1_2 a1_3 a1_4 a1_5 a1_6 a1_7 a2_0 a2_1 a2_2 a2_3 a2_4 a2_5 a2_6 a2_7) else ((arith_isInt.f a1_0 a1_1 a1_2 a1_3 a1_4 a1_5 a1_6 a1_7).bind fun t317 => (if t317 = true then ((arith_isInt.f a2_0 a2_1 a2_2 a2_3 a2_4 a2_5 a2_6 a2_7).bind fun t318 => (arith_sums.j0 k a0 t318 a1_0 a1_1 a1_2 a1_3 a1_4 a1_5 a1_6 a1_7 a2_0 a2_1 a2_2 a2_3 a2_4 a2_5 a2_6 a2_7)) else (arith_sums.j0 k a0 false a1_0 a1_1 a1_2 a1_3 a1_4 a1_5 a1_6 a1_7 a2_0 a2_1 a2_2 a2_3 a2_4 a2_5 a2_6 a2_7)))) = some (r1, r2, r3, r4, r5, r6, r7, r8, r9) := h
  clear h
  have HC4 := Aside0.mk H
  clear H
  go_enter Tryd.func50, Tryd.ntmps50
  go_upto_region 1 with (first | ((with_reducible refine gate_dst (N := 4) rfl ?_); refine box_event ?hg (N := 4) ?hd (cs := #[.int .i64 a1_0, .bool a1_1, .int .i64 a1_2, .int .i64 a1_3, .string a1_4, .int .i64 a1_5, .int .i64 a1_6, .int .i64 a1_7]) (t := 38) ?hr ?_; (case hd => rfl); (case hg => rfl); (case hr => first | (go_simp; done) | (go_simp; rfl)); intro gb314 hg w5 hbox hb; have n0_ := Aside0.mk (below_step (by repeat (first | (with_reducible first | exact HB.out | apply below_alloc | apply pw_below_drewN | apply below_drew1) | exact HB.out)) hb); have n1_ := Aside0.mk (hbox); have n2_ := Aside0.mk ((by rw [hg]; exact (below_size (by repeat (first | (with_reducible first | exact HB.out | apply below_alloc | apply pw_below_drewN | apply below_drew1) | exact HB.out))) : w.heap.size ≤ gb314)); have n3_ := Aside0.mk ((by rw [hg]; exact (below_size (by repeat (first | (with_reducible first | exact HB.out | apply below_alloc | apply pw_below_drewN | apply below_drew1) | exact HB.out))) : w.heap.size ≤ gb314)); clear HB; have HB := n0_; have BK314 := n1_; have GW314 := n2_; have GE314 := n3_; clear n0_ n1_ n2_ n3_; clear hb hbox hg) | ((with_reducible refine gate_dst (N := 5) rfl ?_); refine box_event ?hg (N := 5) ?hd (cs := #[.int .i64 a2_0, .bool a2_1, .int .i64 a2_2, .int .i64 a2_3, .string a2_4, .int .i64 a2_5, .int .i64 a2_6, .int .i64 a2_7]) (t := 38) ?hr ?_; (case hd => rfl); (case hg => rfl); (case hr => first | (go_simp; done) | (go_simp; rfl)); intro gb315 hg w6 hbox hb; have n0_ := Aside0.mk (blk_below (g := gb314) (o := .cells #[.int .i64 a1_0, .bool a1_1, .int .i64 a1_2, .int .i64 a1_3, .string a1_4, .int .i64 a1_5, .int .i64 a1_6, .int .i64 a1_7] 38 (0, 0)) (by (with_reducible repeat (first | refine blk_drewN ?_ _ | refine blk_drew ?_ | refine blk_alloc ?_ _)); exact BK314.out) hb); have n1_ := Aside0.mk (below_step (by repeat (first | (with_reducible first | exact HB.out | apply below_alloc | apply pw_below_drewN | apply below_drew1 | refine below_set ?_ GE314.out) | exact HB.out)) hb); have n2_ := Aside0.mk (hbox); have n3_ := Aside0.mk ((by rw [hg]; exact (below_size (by repeat (first | (with_reducible first | exact HB.out | apply below_alloc | apply pw_below_drewN | apply below_drew1 | refine below_set ?_ GE314.out) | exact HB.out))) : w.heap.size ≤ gb315)); have n4_ := Aside0.mk ((by rw [hg]; exact (below_size (by repeat (first | (with_reducible first | exact HB.out | apply below_alloc | apply pw_below_drewN | apply below_drew1 | refine below_set ?_ GE314.out) | exact HB.out))) : w.heap.size ≤ gb315)); have n5_ := Aside0.mk ((by rw [hg]; exact Nat.ne_of_lt (blk_lt (g := gb314) (o := .cells #[.int .i64 a1_0, .bool a1_1, .int .i64 a1_2, .int .i64 a1_3, .string a1_4, .int .i64 a1_5, .int .i64 a1_6, .int .i64 a1_7] 38 (0, 0)) (by (with_reducible repeat (first | refine blk_drewN ?_ _ | refine blk_drew ?_ | refine blk_alloc ?_ _)); exact BK314.out)) : gb314 ≠ gb315)); have n6_ := Aside0.mk ((by rw [hg]; exact Nat.ne_of_gt (blk_lt (g := gb314) (o := .cells #[.int .i64 a1_0, .bool a1_1, .int .i64 a1_2, .int .i64 a1_3, .string a1_4, .int .i64 a1_5, .int .i64 a1_6, .int .i64 a1_7] 38 (0, 0)) (by (with_reducible repeat (first | refine blk_drewN ?_ _ | refine blk_drew ?_ | refine blk_alloc ?_ _)); exact BK314.out)) : gb315 ≠ gb314)); clear BK314; clear HB; have BK314 := n0_; have HB := n1_; have BK315 := n2_; have GW315 := n3_; have GE315 := n4_; have NB314_315 := n5_; have NB315_314 := n6_; clear n0_ n1_ n2_ n3_ n4_ n5_ n6_; clear hb hbox hg) | ((with_reducible refine gate_dst (N := 6) rfl ?_); refine box_event ?hg (N := 6) ?hd (cs := #[.int .i64 0, .bool false, .int .i64 0, .int .i64 0, .string (⟨#[]⟩ : ByteArray), .int .i64 0, .int .i64 0, .int .i64 0]) (t := 38) ?hr ?_; (case hd => rfl); (case hg => rfl); (case hr => first | (go_simp; done) | (go_simp; rfl)); intro gb316 hg w7 hbox hb; have n0_ := Aside0.mk (blk_below (g := gb314) (o := .cells #[.int .i64 a1_0, .bool a1_1, .int .i64 a1_2, .int .i64 a1_3, .string a1_4, .int .i64 a1_5, .int .i64 a1_6, .int .i64 a1_7] 38 (0, 0)) (by (with_reducible repeat (first | refine blk_drewN ?_ _ | refine blk_drew ?_ | refine blk_alloc ?_ _)); exact BK314.out) hb); have n1_ := Aside0.mk (blk_below (g := gb315) (o := .cells #[.int .i64 a2_0, .bool a2_1, .int .i64 a2_2, .int .i64 a2_3, .string a2_4, .int .i64 a2_5, .int .i64 a2_6, .int .i64 a2_7] 38 (0, 0)) (by (with_reducible repeat (first | refine blk_drewN ?_ _ | refine blk_drew ?_ | refine blk_alloc ?_ _)); exact BK315.out) hb); have n2_ := Aside0.mk (below_step (by repeat (first | (with_reducible first | exact HB.out | apply below_alloc | apply pw_below_drewN | apply below_drew1 | refine below_set ?_ GE314.out | refine below_set ?_ GE315.out) | exact HB.out)) hb); have n3_ := Aside0.mk (hbox); have n4_ := Aside0.mk ((by rw [hg]; exact (below_size (by repeat (first | (with_reducible first | exact HB.out | apply below_alloc | apply pw_below_drewN | apply below_drew1 | refine below_set ?_ GE314.out | refine below_set ?_ GE315.out) | exact HB.out))) : w.heap.size ≤ gb316)); have n5_ := Aside0.mk ((by rw [hg]; exact (below_size (by repeat (first | (with_reducible first | exact HB.out | apply below_alloc | apply pw_below_drewN | apply below_drew1 | refine below_set ?_ GE314.out | refine below_set ?_ GE315.out) | exact HB.out))) : w.heap.size ≤ gb316)); have n6_ := Aside0.mk ((by rw [hg]; exact Nat.ne_of_lt (blk_lt (g := gb314) (o := .cells #[.int .i64 a1_0, .bool a1_1, .int .i64 a1_2, .int .i64 a1_3, .string a1_4, .int .i64 a1_5, .int .i64 a1_6, .int .i64 a1_7] 38 (0, 0)) (by (with_reducible repeat (first | refine blk_drewN ?_ _ | refine blk_drew ?_ | refine blk_alloc ?_ _)); exact BK314.out)) : gb314 ≠ gb316)); have n7_ := Aside0.mk ((by rw [hg]; exact Nat.ne_of_gt (blk_lt (g := gb314) (o := .cells #[.int .i64 a1_0, .bool a1_1, .int .i64 a1_2, .int .i64 a1_3, .string a1_4, .int .i64 a1_5, .int .i64 a1_6, .int .i64 a1_7] 38 (0, 0)) (by (with_reducible repeat (first | refine blk_drewN ?_ _ | refine blk_drew ?_ | refine blk_alloc ?_ _)); exact BK314.out)) : gb316 ≠ gb314)); have n8_ := Aside0.mk ((by rw [hg]; exact Nat.ne_of_lt (blk_lt (g := gb315) (o := .cells #[.int .i64 a2_0, .bool a2_1, .int .i64 a2_2, .int .i64 a2_3, .string a2_4, .int .i64 a2_5, .int .i64 a2_6, .int .i64 a2_7] 38 (0, 0)) (by (with_reducible repeat (first | refine blk_drewN ?_ _ | refine blk_drew ?_ | refine blk_alloc ?_ _)); exact BK315.out)) : gb315 ≠ gb316)); have n9_ := Aside0.mk ((by rw [hg]; exact Nat.ne_of_gt (blk_lt (g := gb315) (o := .cells #[.int .i64 a2_0, .bool a2_1, .int .i64 a2_2, .int .i64 a2_3, .string a2_4, .int .i64 a2_5, .int .i64 a2_6, .int .i64 a2_7] 38 (0, 0)) (by (with_reducible repeat (first | refine blk_drewN ?_ _ | refine blk_drew ?_ | refine blk_alloc ?_ _)); exact BK315.out)) : gb316 ≠ gb315)); clear BK314; clear BK315; clear HB; have BK314 := n0_; have BK315 := n1_; have HB := n2_; have BK316 := n3_; have GW316 := n4_; have GE316 := n5_; have NB314_316 := n6_; have NB316_314 := n7_; have NB315_316 := n8_; have NB316_315 := n9_; clear n0_ n1_ n2_ n3_ n4_ n5_ n6_ n7_ n8_ n9_; clear hb hbox hg))
  (try simp only [Act.put, List.setIfInBounds_toArray, List.set_cons_zero, List.set_cons_succ])
  go_cut [22] (fun v22 wc => ∃ (kq : Nat) (x22_3 : Bool), v22 = .bool x22_3 ∧ Aside0 (arith_sums.j0 kq a0 x22_3 a1_0 a1_1 a1_2 a1_3 a1_4 a1_5 a1_6 a1_7 a2_0 a2_1 a2_2 a2_3 a2_4 a2_5 a2_6 a2_7 = some (r1, r2, r3, r4, r5, r6, r7, r8, r9)) ∧ Aside0 (kq ≤ k) ∧ Aside0 (wc.heap[gb314]? = some (.cells #[.int .i64 a1_0, .bool a1_1, .int .i64 a1_2, .int .i64 a1_3, .string a1_4, .int .i64 a1_5, .int .i64 a1_6, .int .i64 a1_7] 38 (0, 0))) ∧ Aside0 (wc.heap[gb315]? = some (.cells #[.int .i64 a2_0, .bool a2_1, .int .i64 a2_2, .int .i64 a2_3, .string a2_4, .int .i64 a2_5, .int .i64 a2_6, .int .i64 a2_7] 38 (0, 0))) ∧ Aside0 (wc.heap[gb316]? = some (.cells #[.int .i64 0, .bool false, .int .i64 0, .int .i64 0, .string (⟨#[]⟩ : ByteArray), .int .i64 0, .int .i64 0, .int .i64 0] 38 (0, 0))) ∧ Aside0 (Below w.heap.size w wc))
  case first =>
    have H := HC4.out
    clear HC4
    by_cases c8 : a0.toList = ([100, 105, 118] : List UInt8)
    · rw [if_pos c8] at H
      have c8b0 : (a0.toList == ([100, 105, 118] : List UInt8)) = true := beq_iff_eq.mpr c8
      have c8b1 : (a0.toList != ([100, 105, 118] : List UInt8)) = false := bne_eq_false_iff_eq.mpr c8
      clear c8
      (first | rw [c8b0] | (simp only [i64_w, i32_w]; rw [c8b0]) | skip)
      have H' := Aside0.mk H
      clear H
      go_wp2
      go_meet
      case rel => exact ⟨_, (false), (by first | rfl | (simp; done) | (simp [*]; done)), H', ⟨by first | omega | exact Nat.le_refl _⟩, ⟨by (with_reducible repeat (first | refine blk_drewN ?_ _ | refine blk_drew ?_ | refine blk_alloc ?_ _)); exact BK314.out⟩, ⟨by (with_reducible repeat (first | refine blk_drewN ?_ _ | refine blk_drew ?_ | refine blk_alloc ?_ _)); exact BK315.out⟩, ⟨by (with_reducible repeat (first | refine blk_drewN ?_ _ | refine blk_drew ?_ | refine blk_alloc ?_ _)); exact BK316.out⟩, ⟨by repeat (first | (with_reducible first | exact HB.out | apply below_alloc | apply pw_below_drewN | apply below_drew1 | refine below_set ?_ GE314.out | refine below_set ?_ GE315.out | refine below_set ?_ GE316.out) | exact HB.out)⟩⟩
    · rw [if_neg c8] at H
      have c8b0 : (a0.toList == ([100, 105, 118] : List UInt8)) = false := beq_eq_false_iff_ne.mpr c8
      have c8b1 : (a0.toList != ([100, 105, 118] : List UInt8)) = true := bne_iff_ne.mpr c8
      (first | rw [c8b0] | (simp only [i64_w, i32_w]; rw [c8b0]) | skip)
      replace H := Option.bind_eq_some_iff.mp H
      obtain ⟨t317, A90, H⟩ := H
      replace H : (if t317 = true then ((arith_isInt.f a2_0 a2_1 a2_2 a2_3 a2_4 a2_5 a2_6 a2_7).bind fun t318 => (arith_sums.j0 k a0 t318 a1_0 a1_1 a1_2 a1_3 a1_4 a1_5 a1_6 a1_7 a2_0 a2_1 a2_2 a2_3 a2_4 a2_5 a2_6 a2_7)) else (arith_sums.j0 k a0 false a1_0 a1_1 a1_2 a1_3 a1_4 a1_5 a1_6 a1_7 a2_0 a2_1 a2_2 a2_3 a2_4 a2_5 a2_6 a2_7)) = some (r1, r2, r3, r4, r5, r6, r7, r8, r9) := H
      have A9 := Aside0.mk A90
      clear A90
      by_cases c10 : t317 = true
      · subst c10
        have H1 : ((arith_isInt.f a2_0 a2_1 a2_2 a2_3 a2_4 a2_5 a2_6 a2_7).bind fun t318 => (arith_sums.j0 k a0 t318 a1_0 a1_1 a1_2 a1_3 a1_4 a1_5 a1_6 a1_7 a2_0 a2_1 a2_2 a2_3 a2_4 a2_5 a2_6 a2_7)) = some (r1, r2, r3, r4, r5, r6, r7, r8, r9) := by rw [if_pos rfl] at H; exact H
        clear H
        have H := H1
        clear H1
        replace H := Option.bind_eq_some_iff.mp H
        obtain ⟨t318, A110, H⟩ := H
        replace H : (arith_sums.j0 k a0 t318 a1_0 a1_1 a1_2 a1_3 a1_4 a1_5 a1_6 a1_7 a2_0 a2_1 a2_2 a2_3 a2_4 a2_5 a2_6 a2_7) = some (r1, r2, r3, r4, r5, r6, r7, r8, r9) := H
        have A11 := Aside0.mk A110
        clear A110
        have H' := Aside0.mk H
        clear H
        have hnb12 := NB314_315.out
        have hnc12 := NB315_314.out
        have hnb13 := NB314_316.out
        have hnc13 := NB316_314.out
        have hcz14_0 : w7.cell? ⟨gb314, 0, none⟩ = some (.int .i64 a1_0) := (blk_cell BK314.out 0).trans rfl
        have hcz14_1 : w7.cell? ⟨gb314, 1, none⟩ = some (.bool a1_1) := (blk_cell BK314.out 1).trans rfl
        have hcz14_2 : w7.cell? ⟨gb314, 2, none⟩ = some (.int .i64 a1_2) := (blk_cell BK314.out 2).trans rfl
        have hcz14_3 : w7.cell? ⟨gb314, 3, none⟩ = some (.int .i64 a1_3) := (blk_cell BK314.out 3).trans rfl
        have hcz14_4 : w7.cell? ⟨gb314, 4, none⟩ = some (.string a1_4) := (blk_cell BK314.out 4).trans rfl
        have hcz14_5 : w7.cell? ⟨gb314, 5, none⟩ = some (.int .i64 a1_5) := (blk_cell BK314.out 5).trans rfl
        have hcz14_6 : w7.cell? ⟨gb314, 6, none⟩ = some (.int .i64 a1_6) := (blk_cell BK314.out 6).trans rfl
        have hcz14_7 : w7.cell? ⟨gb314, 7, none⟩ = some (.int .i64 a1_7) := (blk_cell BK314.out 7).trans rfl
        have hfz14_0 := blk_frozen BK314.out 0
        have hfz14_1 := blk_frozen BK314.out 1
        have hfz14_2 := blk_frozen BK314.out 2
        have hfz14_3 := blk_frozen BK314.out 3
        have hfz14_4 := blk_frozen BK314.out 4
        have hfz14_5 := blk_frozen BK314.out 5
        have hfz14_6 := blk_frozen BK314.out 6
        have hfz14_7 := blk_frozen BK314.out 7
        go_wp2_with (first | (go_at_call 40; (with_reducible refine (arith_isInt.calls a1_0 a1_1 a1_2 a1_3 a1_4 a1_5 a1_6 a1_7 true _ A9.out).mono ?_); rintro e w15 ⟨rfl, hb⟩; have n0_ := Aside0.mk (blk_below (g := gb314) (o := .cells #[.int .i64 a1_0, .bool a1_1, .int .i64 a1_2, .int .i64 a1_3, .string a1_4, .int .i64 a1_5, .int .i64 a1_6, .int .i64 a1_7] 38 (0, 0)) (by (with_reducible repeat (first | refine blk_drewN ?_ _ | refine blk_drew ?_ | refine blk_alloc ?_ _)); exact BK314.out) hb); have n1_ := Aside0.mk (blk_below (g := gb315) (o := .cells #[.int .i64 a2_0, .bool a2_1, .int .i64 a2_2, .int .i64 a2_3, .string a2_4, .int .i64 a2_5, .int .i64 a2_6, .int .i64 a2_7] 38 (0, 0)) (by (with_reducible repeat (first | refine blk_drewN ?_ _ | refine blk_drew ?_ | refine blk_alloc ?_ _)); exact BK315.out) hb); have n2_ := Aside0.mk (blk_below (g := gb316) (o := .cells #[.int .i64 0, .bool false, .int .i64 0, .int .i64 0, .string (⟨#[]⟩ : ByteArray), .int .i64 0, .int .i64 0, .int .i64 0] 38 (0, 0)) (by (with_reducible repeat (first | refine blk_drewN ?_ _ | refine blk_drew ?_ | refine blk_alloc ?_ _)); exact BK316.out) hb); have n3_ := Aside0.mk (below_step (by repeat (first | (with_reducible first | exact HB.out | apply below_alloc | apply pw_below_drewN | apply below_drew1 | refine below_set ?_ GE314.out | refine below_set ?_ GE315.out | refine below_set ?_ GE316.out) | exact HB.out)) hb); clear BK314; clear BK315; clear BK316; clear HB; have BK314 := n0_; have BK315 := n1_; have BK316 := n2_; have HB := n3_; clear n0_ n1_ n2_ n3_; (try clear hb); (try clear hb2); (try clear hk); (try clear hi); have hnb16 := NB315_316.out; have hnc16 := NB316_315.out; obtain ⟨hcz17_0, hcz17_1, hcz17_2, hcz17_3, hcz17_4, hcz17_5, hcz17_6, hcz17_7⟩ := pc8 BK315.out; obtain ⟨hfz17_0, hfz17_1, hfz17_2, hfz17_3, hfz17_4, hfz17_5, hfz17_6, hfz17_7⟩ := pf8 BK315.out) | (go_at_call 40; (with_reducible refine (arith_isInt.calls a2_0 a2_1 a2_2 a2_3 a2_4 a2_5 a2_6 a2_7 t318 _ A11.out).mono ?_); rintro e w18 ⟨rfl, hb⟩; have n0_ := Aside0.mk (blk_below (g := gb314) (o := .cells #[.int .i64 a1_0, .bool a1_1, .int .i64 a1_2, .int .i64 a1_3, .string a1_4, .int .i64 a1_5, .int .i64 a1_6, .int .i64 a1_7] 38 (0, 0)) (by (with_reducible repeat (first | refine blk_drewN ?_ _ | refine blk_drew ?_ | refine blk_alloc ?_ _)); exact BK314.out) hb); have n1_ := Aside0.mk (blk_below (g := gb315) (o := .cells #[.int .i64 a2_0, .bool a2_1, .int .i64 a2_2, .int .i64 a2_3, .string a2_4, .int .i64 a2_5, .int .i64 a2_6, .int .i64 a2_7] 38 (0, 0)) (by (with_reducible repeat (first | refine blk_drewN ?_ _ | refine blk_drew ?_ | refine blk_alloc ?_ _)); exact BK315.out) hb); have n2_ := Aside0.mk (blk_below (g := gb316) (o := .cells #[.int .i64 0, .bool false, .int .i64 0, .int .i64 0, .string (⟨#[]⟩ : ByteArray), .int .i64 0, .int .i64 0, .int .i64 0] 38 (0, 0)) (by (with_reducible repeat (first | refine blk_drewN ?_ _ | refine blk_drew ?_ | refine blk_alloc ?_ _)); exact BK316.out) hb); have n3_ := Aside0.mk (below_step (by repeat (first | (with_reducible first | exact HB.out | apply below_alloc | apply pw_below_drewN | apply below_drew1 | refine below_set ?_ GE314.out | refine below_set ?_ GE315.out | refine below_set ?_ GE316.out) | exact HB.out)) hb); clear BK314; clear BK315; clear BK316; clear HB; have BK314 := n0_; have BK315 := n1_; have BK316 := n2_; have HB := n3_; clear n0_ n1_ n2_ n3_; (try clear hb); (try clear hb2); (try clear hk); (try clear hi)))
        go_meet
        case rel => exact ⟨_, (t318), (by first | rfl | (simp; done) | (simp [*]; done)), H', ⟨by first | omega | exact Nat.le_refl _⟩, ⟨by (with_reducible repeat (first | refine blk_drewN ?_ _ | refine blk_drew ?_ | refine blk_alloc ?_ _)); exact BK314.out⟩, ⟨by (with_reducible repeat (first | refine blk_drewN ?_ _ | refine blk_drew ?_ | refine blk_alloc ?_ _)); exact BK315.out⟩, ⟨by (with_reducible repeat (first | refine blk_drewN ?_ _ | refine blk_drew ?_ | refine blk_alloc ?_ _)); exact BK316.out⟩, ⟨by repeat (first | (with_reducible first | exact HB.out | apply below_alloc | apply pw_below_drewN | apply below_drew1 | refine below_set ?_ GE314.out | refine below_set ?_ GE315.out | refine below_set ?_ GE316.out) | exact HB.out)⟩⟩
      · replace c10 := Bool.eq_false_iff.mpr c10
        subst c10
        have H1 : (arith_sums.j0 k a0 false a1_0 a1_1 a1_2 a1_3 a1_4 a1_5 a1_6 a1_7 a2_0 a2_1 a2_2 a2_3 a2_4 a2_5 a2_6 a2_7) = some (r1, r2, r3, r4, r5, r6, r7, r8, r9) := by rw [if_neg (show ¬ (false = true) by decide)] at H; exact H
        clear H
        have H := H1
        clear H1
        have H' := Aside0.mk H
        clear H
        have hnb19 := NB314_315.out
        have hnc19 := NB315_314.out
        have hnb20 := NB314_316.out
        have hnc20 := NB316_314.out
        have hcz21_0 : w7.cell? ⟨gb314, 0, none⟩ = some (.int .i64 a1_0) := (blk_cell BK314.out 0).trans rfl
        have hcz21_1 : w7.cell? ⟨gb314, 1, none⟩ = some (.bool a1_1) := (blk_cell BK314.out 1).trans rfl
        have hcz21_2 : w7.cell? ⟨gb314, 2, none⟩ = some (.int .i64 a1_2) := (blk_cell BK314.out 2).trans rfl
        have hcz21_3 : w7.cell? ⟨gb314, 3, none⟩ = some (.int .i64 a1_3) := (blk_cell BK314.out 3).trans rfl
        have hcz21_4 : w7.cell? ⟨gb314, 4, none⟩ = some (.string a1_4) := (blk_cell BK314.out 4).trans rfl
        have hcz21_5 : w7.cell? ⟨gb314, 5, none⟩ = some (.int .i64 a1_5) := (blk_cell BK314.out 5).trans rfl
        have hcz21_6 : w7.cell? ⟨gb314, 6, none⟩ = some (.int .i64 a1_6) := (blk_cell BK314.out 6).trans rfl
        have hcz21_7 : w7.cell? ⟨gb314, 7, none⟩ = some (.int .i64 a1_7) := (blk_cell BK314.out 7).trans rfl
        have hfz21_0 := blk_frozen BK314.out 0
        have hfz21_1 := blk_frozen BK314.out 1
        have hfz21_2 := blk_frozen BK314.out 2
        have hfz21_3 := blk_frozen BK314.out 3
        have hfz21_4 := blk_frozen BK314.out 4
        have hfz21_5 := blk_frozen BK314.out 5
        have hfz21_6 := blk_frozen BK314.out 6
        have hfz21_7 := blk_frozen BK314.out 7
        go_wp2_with (first | (go_at_call 40; (with_reducible refine (arith_isInt.calls a1_0 a1_1 a1_2 a1_3 a1_4 a1_5 a1_6 a1_7 false _ A9.out).mono ?_); rintro e w22 ⟨rfl, hb⟩; have n0_ := Aside0.mk (blk_below (g := gb314) (o := .cells #[.int .i64 a1_0, .bool a1_1, .int .i64 a1_2, .int .i64 a1_3, .string a1_4, .int .i64 a1_5, .int .i64 a1_6, .int .i64 a1_7] 38 (0, 0)) (by (with_reducible repeat (first | refine blk_drewN ?_ _ | refine blk_drew ?_ | refine blk_alloc ?_ _)); exact BK314.out) hb); have n1_ := Aside0.mk (blk_below (g := gb315) (o := .cells #[.int .i64 a2_0, .bool a2_1, .int .i64 a2_2, .int .i64 a2_3, .string a2_4, .int .i64 a2_5, .int .i64 a2_6, .int .i64 a2_7] 38 (0, 0)) (by (with_reducible repeat (first | refine blk_drewN ?_ _ | refine blk_drew ?_ | refine blk_alloc ?_ _)); exact BK315.out) hb); have n2_ := Aside0.mk (blk_below (g := gb316) (o := .cells #[.int .i64 0, .bool false, .int .i64 0, .int .i64 0, .string (⟨#[]⟩ : ByteArray), .int .i64 0, .int .i64 0, .int .i64 0] 38 (0, 0)) (by (with_reducible repeat (first | refine blk_drewN ?_ _ | refine blk_drew ?_ | refine blk_alloc ?_ _)); exact BK316.out) hb); have n3_ := Aside0.mk (below_step (by repeat (first | (with_reducible first | exact HB.out | apply below_alloc | apply pw_below_drewN | apply below_drew1 | refine below_set ?_ GE314.out | refine below_set ?_ GE315.out | refine below_set ?_ GE316.out) | exact HB.out)) hb); clear BK314; clear BK315; clear BK316; clear HB; have BK314 := n0_; have BK315 := n1_; have BK316 := n2_; have HB := n3_; clear n0_ n1_ n2_ n3_; (try clear hb); (try clear hb2); (try clear hk); (try clear hi)))
        go_meet
        case rel => exact ⟨_, (false), (by first | rfl | (simp; done) | (simp [*]; done)), H', ⟨by first | omega | exact Nat.le_refl _⟩, ⟨by (with_reducible repeat (first | refine blk_drewN ?_ _ | refine blk_drew ?_ | refine blk_alloc ?_ _)); exact BK314.out⟩, ⟨by (with_reducible repeat (first | refine blk_drewN ?_ _ | refine blk_drew ?_ | refine blk_alloc ?_ _)); exact BK315.out⟩, ⟨by (with_reducible repeat (first | refine blk_drewN ?_ _ | refine blk_drew ?_ | refine blk_alloc ?_ _)); exact BK316.out⟩, ⟨by repeat (first | (with_reducible first | exact HB.out | apply below_alloc | apply pw_below_drewN | apply below_drew1 | refine below_set ?_ GE314.out | refine below_set ?_ GE315.out | refine below_set ?_ GE316.out) | exact HB.out)⟩⟩
  case rest =>
    clear HC4
    try clear c1
    try clear c2
    try clear p2
    try clear c5
    try clear c8
    try clear c8b0
    try clear c8b1
    try clear c10
    try clear c12
    try clear c13
    try clear c16
    try clear c19
    try clear c20
    try clear hcz14_0
    try clear hcz14_1
    try clear hcz14_2
    try clear hcz14_3
    try clear hcz14_4
    try clear hcz14_5
    try clear hcz14_6
    try clear hcz14_7
    try clear hcz17_0
    try clear hcz17_1
    try clear hcz17_2
    try clear hcz17_3
    try clear hcz17_4
    try clear hcz17_5
    try clear hcz17_6
    try clear hcz17_7
    try clear hcz21_0
    try clear hcz21_1
    try clear hcz21_2
    try clear hcz21_3
    try clear hcz21_4
    try clear hcz21_5
    try clear hcz21_6
    try clear hcz21_7
    try clear hfz14_0
    try clear hfz14_1
    try clear hfz14_2
    try clear hfz14_3
    try clear hfz14_4
    try clear hfz14_5
    try clear hfz14_6
    try clear hfz14_7
    try clear hfz17_0
    try clear hfz17_1
    try clear hfz17_2
    try clear hfz17_3
    try clear hfz17_4
    try clear hfz17_5
    try clear hfz17_6
    try clear hfz17_7
    try clear hfz21_0
    try clear hfz21_1
    try clear hfz21_2
    try clear hfz21_3
    try clear hfz21_4
    try clear hfz21_5
    try clear hfz21_6
    try clear hfz21_7
    obtain ⟨kq, x22_3, rfl, HA, HJ3, BK314, BK315, BK316, HB⟩ := hcut
    cases kq with
    | zero => exact absurd HA.out (by simp [arith_sums.j0])
    | succ kj3 =>
      have H := HA.out
      clear HA
      simp only [arith_sums.j0] at H
      have HC23 := Aside0.mk H
      clear H
      go_upto_if 22 with (fail)
      go_cut [] (fun wc => ∃ (kq : Nat) (x317000_22 : Int) (x317001_22 : Bool) (x317002_22 : Int) (x317003_22 : Int) (x317004_22 : ByteArray) (x317005_22 : Int) (x317006_22 : Int) (x317007_22 : Int), Aside0 (arith_sums.j1 kq a0 a1_0 a1_1 a1_2 a1_3 a1_4 a1_5 a1_6 a1_7 a2_0 a2_1 a2_2 a2_3 a2_4 a2_5 a2_6 a2_7 = some (r1, r2, r3, r4, r5, r6, r7, r8, r9)) ∧ Aside0 (kq ≤ kj3) ∧ Aside0 (wc.heap[gb314]? = some (.cells #[.int .i64 a1_0, .bool a1_1, .int .i64 a1_2, .int .i64 a1_3, .string a1_4, .int .i64 a1_5, .int .i64 a1_6, .int .i64 a1_7] 38 (0, 0))) ∧ Aside0 (wc.heap[gb315]? = some (.cells #[.int .i64 a2_0, .bool a2_1, .int .i64 a2_2, .int .i64 a2_3, .string a2_4, .int .i64 a2_5, .int .i64 a2_6, .int .i64 a2_7] 38 (0, 0))) ∧ Aside0 (wc.heap[gb316]? = some (.cells #[.int .i64 x317000_22, .bool x317001_22, .int .i64 x317002_22, .int .i64 x317003_22, .string x317004_22, .int .i64 x317005_22, .int .i64 x317006_22, .int .i64 x317007_22] 38 (0, 0))) ∧ Aside0 (Below w.heap.size w wc))
      case first =>
        have H := HC23.out
        clear HC23
        by_cases c24 : x22_3 = true
        · subst c24
          have H1 : ((arith_exact.f a0 a1_3 a2_3).bind fun t319 => ((arith_small.f t319).bind fun t320 => (if t320 = true then ((arith_whole.f t319).bind fun bt321 => (some (bt321.1, bt321.2.1, bt321.2.2.1, bt321.2.2.2.1, bt321.2.2.2.2.1, bt321.2.2.2.2.2.1, bt321.2.2.2.2.2.2.1, bt321.2.2.2.2.2.2.2, 0))) else (arith_sums.j1 kj3 a0 a1_0 a1_1 a1_2 a1_3 a1_4 a1_5 a1_6 a1_7 a2_0 a2_1 a2_2 a2_3 a2_4 a2_5 a2_6 a2_7)))) = some (r1, r2, r3, r4, r5, r6, r7, r8, r9) := by rw [if_pos rfl] at H; exact H
          clear H
          have H := H1
          clear H1
          replace H := Option.bind_eq_some_iff.mp H
          obtain ⟨t319, A250, H⟩ := H
          replace H : ((arith_small.f t319).bind fun t320 => (if t320 = true then ((arith_whole.f t319).bind fun bt321 => (some (bt321.1, bt321.2.1, bt321.2.2.1, bt321.2.2.2.1, bt321.2.2.2.2.1, bt321.2.2.2.2.2.1, bt321.2.2.2.2.2.2.1, bt321.2.2.2.2.2.2.2, 0))) else (arith_sums.j1 kj3 a0 a1_0 a1_1 a1_2 a1_3 a1_4 a1_5 a1_6 a1_7 a2_0 a2_1 a2_2 a2_3 a2_4 a2_5 a2_6 a2_7))) = some (r1, r2, r3, r4, r5, r6, r7, r8, r9) := H
          have A25 := Aside0.mk A250
          clear A250
          replace H := Option.bind_eq_some_iff.mp H
          obtain ⟨t320, A260, H⟩ := H
          replace H : (if t320 = true then ((arith_whole.f t319).bind fun bt321 => (some (bt321.1, bt321.2.1, bt321.2.2.1, bt321.2.2.2.1, bt321.2.2.2.2.1, bt321.2.2.2.2.2.1, bt321.2.2.2.2.2.2.1, bt321.2.2.2.2.2.2.2, 0))) else (arith_sums.j1 kj3 a0 a1_0 a1_1 a1_2 a1_3 a1_4 a1_5 a1_6 a1_7 a2_0 a2_1 a2_2 a2_3 a2_4 a2_5 a2_6 a2_7)) = some (r1, r2, r3, r4, r5, r6, r7, r8, r9) := H
          have A26 := Aside0.mk A260
          clear A260
          by_cases c27 : t320 = true
          · subst c27
            have H1 : ((arith_whole.f t319).bind fun bt321 => (some (bt321.1, bt321.2.1, bt321.2.2.1, bt321.2.2.2.1, bt321.2.2.2.2.1, bt321.2.2.2.2.2.1, bt321.2.2.2.2.2.2.1, bt321.2.2.2.2.2.2.2, 0))) = some (r1, r2, r3, r4, r5, r6, r7, r8, r9) := by rw [if_pos rfl] at H; exact H
            clear H
            have H := H1
            clear H1
            replace H := Option.bind_eq_some_iff.mp H
            obtain ⟨⟨t321, t322, t323, t324, t325, t326, t327, t328⟩, A280, H⟩ := H
            replace H : (some (t321, t322, t323, t324, t325, t326, t327, t328, 0)) = some (r1, r2, r3, r4, r5, r6, r7, r8, r9) := H
            have A28 := Aside0.mk A280
            clear A280
            simp only [Option.some.injEq, Prod.mk.injEq] at H
            obtain ⟨rfl, rfl, rfl, rfl, rfl, rfl, rfl, rfl, rfl⟩ := H
            have hnb29 := NB314_315.out
            have hnc29 := NB315_314.out
            have hnb30 := NB314_316.out
            have hnc30 := NB316_314.out
            have hcz31_0 : wc.cell? ⟨gb314, 0, none⟩ = some (.int .i64 a1_0) := (blk_cell BK314.out 0).trans rfl
            have hcz31_1 : wc.cell? ⟨gb314, 1, none⟩ = some (.bool a1_1) := (blk_cell BK314.out 1).trans rfl
            have hcz31_2 : wc.cell? ⟨gb314, 2, none⟩ = some (.int .i64 a1_2) := (blk_cell BK314.out 2).trans rfl
            have hcz31_3 : wc.cell? ⟨gb314, 3, none⟩ = some (.int .i64 a1_3) := (blk_cell BK314.out 3).trans rfl
            have hcz31_4 : wc.cell? ⟨gb314, 4, none⟩ = some (.string a1_4) := (blk_cell BK314.out 4).trans rfl
            have hcz31_5 : wc.cell? ⟨gb314, 5, none⟩ = some (.int .i64 a1_5) := (blk_cell BK314.out 5).trans rfl
            have hcz31_6 : wc.cell? ⟨gb314, 6, none⟩ = some (.int .i64 a1_6) := (blk_cell BK314.out 6).trans rfl
            have hcz31_7 : wc.cell? ⟨gb314, 7, none⟩ = some (.int .i64 a1_7) := (blk_cell BK314.out 7).trans rfl
            have hfz31_0 := blk_frozen BK314.out 0
            have hfz31_1 := blk_frozen BK314.out 1
            have hfz31_2 := blk_frozen BK314.out 2
            have hfz31_3 := blk_frozen BK314.out 3
            have hfz31_4 := blk_frozen BK314.out 4
            have hfz31_5 := blk_frozen BK314.out 5
            have hfz31_6 := blk_frozen BK314.out 6
            have hfz31_7 := blk_frozen BK314.out 7
            have hnb32 := NB315_316.out
            have hnc32 := NB316_315.out
            have hcz33_0 : wc.cell? ⟨gb315, 0, none⟩ = some (.int .i64 a2_0) := (blk_cell BK315.out 0).trans rfl
            have hcz33_1 : wc.cell? ⟨gb315, 1, none⟩ = some (.bool a2_1) := (blk_cell BK315.out 1).trans rfl
            have hcz33_2 : wc.cell? ⟨gb315, 2, none⟩ = some (.int .i64 a2_2) := (blk_cell BK315.out 2).trans rfl
            have hcz33_3 : wc.cell? ⟨gb315, 3, none⟩ = some (.int .i64 a2_3) := (blk_cell BK315.out 3).trans rfl
            have hcz33_4 : wc.cell? ⟨gb315, 4, none⟩ = some (.string a2_4) := (blk_cell BK315.out 4).trans rfl
            have hcz33_5 : wc.cell? ⟨gb315, 5, none⟩ = some (.int .i64 a2_5) := (blk_cell BK315.out 5).trans rfl
            have hcz33_6 : wc.cell? ⟨gb315, 6, none⟩ = some (.int .i64 a2_6) := (blk_cell BK315.out 6).trans rfl
            have hcz33_7 : wc.cell? ⟨gb315, 7, none⟩ = some (.int .i64 a2_7) := (blk_cell BK315.out 7).trans rfl
            have hfz33_0 := blk_frozen BK315.out 0
            have hfz33_1 := blk_frozen BK315.out 1
            have hfz33_2 := blk_frozen BK315.out 2
            have hfz33_3 := blk_frozen BK315.out 3
            have hfz33_4 := blk_frozen BK315.out 4
            have hfz33_5 := blk_frozen BK315.out 5
            have hfz33_6 := blk_frozen BK315.out 6
            have hfz33_7 := blk_frozen BK315.out 7
            go_wp2_with (first | ((with_reducible refine gate_callee (f := 74) rfl ?_); refine goesL_ (some 28) rfl rfl Tryd.func74 (by kernel_rfl) rfl #[.string a0, .int .i64 a1_3, .int .i64 a2_3] rfl (by (try simp only [List.map_toArray, List.map_cons, List.map_nil]); first | done | rfl | (simp only [List.length_drop, List.length_take]; rfl)) ?_; (with_reducible refine (arith_exact.calls a0 a1_3 a2_3 t319 _ A25.out).mono ?_); rintro e w' ⟨rfl, ⟨nd, rfl⟩⟩; refine ⟨_, rfl, ?_⟩; (try (rw [drewN_self wc]; generalize hq_ : World.drewN wc _ = wc; have n0_ : Aside0 (wc.heap[gb314]? = some (.cells #[.int .i64 a1_0, .bool a1_1, .int .i64 a1_2, .int .i64 a1_3, .string a1_4, .int .i64 a1_5, .int .i64 a1_6, .int .i64 a1_7] 38 (0, 0))) := ⟨by rw [← hq_]; exact (by (with_reducible repeat (first | refine blk_drewN ?_ _ | refine blk_drew ?_ | refine blk_alloc ?_ _)); exact BK314.out)⟩; have n1_ : Aside0 (wc.heap[gb315]? = some (.cells #[.int .i64 a2_0, .bool a2_1, .int .i64 a2_2, .int .i64 a2_3, .string a2_4, .int .i64 a2_5, .int .i64 a2_6, .int .i64 a2_7] 38 (0, 0))) := ⟨by rw [← hq_]; exact (by (with_reducible repeat (first | refine blk_drewN ?_ _ | refine blk_drew ?_ | refine blk_alloc ?_ _)); exact BK315.out)⟩; have n2_ : Aside0 (wc.heap[gb316]? = some (.cells #[.int .i64 0, .bool false, .int .i64 0, .int .i64 0, .string (⟨#[]⟩ : ByteArray), .int .i64 0, .int .i64 0, .int .i64 0] 38 (0, 0))) := ⟨by rw [← hq_]; exact (by (with_reducible repeat (first | refine blk_drewN ?_ _ | refine blk_drew ?_ | refine blk_alloc ?_ _)); exact BK316.out)⟩; have n3_ : Aside0 (Below w.heap.size w wc) := ⟨by rw [← hq_]; exact (by repeat (first | (with_reducible first | exact HB.out | apply below_alloc | apply pw_below_drewN | apply below_drew1 | refine below_set ?_ GE314.out | refine below_set ?_ GE315.out | refine below_set ?_ GE316.out) | exact HB.out))⟩; clear BK314 BK315 BK316 HB hq_; have BK314 := n0_; have BK315 := n1_; have BK316 := n2_; have HB := n3_; clear n0_ n1_ n2_ n3_))) | ((with_reducible refine gate_callee (f := 61) rfl ?_); refine goesL_ (some 30) rfl rfl Tryd.func61 (by kernel_rfl) rfl #[.int .i64 t319] rfl (by (try simp only [List.map_toArray, List.map_cons, List.map_nil]); first | done | rfl | (simp only [List.length_drop, List.length_take]; rfl)) ?_; (with_reducible refine (arith_small.calls t319 true _ A26.out).mono ?_); rintro e w' ⟨rfl, ⟨nd, rfl⟩⟩; refine ⟨_, rfl, ?_⟩; (try (rw [drewN_self wc]; generalize hq_ : World.drewN wc _ = wc; have n0_ : Aside0 (wc.heap[gb314]? = some (.cells #[.int .i64 a1_0, .bool a1_1, .int .i64 a1_2, .int .i64 a1_3, .string a1_4, .int .i64 a1_5, .int .i64 a1_6, .int .i64 a1_7] 38 (0, 0))) := ⟨by rw [← hq_]; exact (by (with_reducible repeat (first | refine blk_drewN ?_ _ | refine blk_drew ?_ | refine blk_alloc ?_ _)); exact BK314.out)⟩; have n1_ : Aside0 (wc.heap[gb315]? = some (.cells #[.int .i64 a2_0, .bool a2_1, .int .i64 a2_2, .int .i64 a2_3, .string a2_4, .int .i64 a2_5, .int .i64 a2_6, .int .i64 a2_7] 38 (0, 0))) := ⟨by rw [← hq_]; exact (by (with_reducible repeat (first | refine blk_drewN ?_ _ | refine blk_drew ?_ | refine blk_alloc ?_ _)); exact BK315.out)⟩; have n2_ : Aside0 (wc.heap[gb316]? = some (.cells #[.int .i64 0, .bool false, .int .i64 0, .int .i64 0, .string (⟨#[]⟩ : ByteArray), .int .i64 0, .int .i64 0, .int .i64 0] 38 (0, 0))) := ⟨by rw [← hq_]; exact (by (with_reducible repeat (first | refine blk_drewN ?_ _ | refine blk_drew ?_ | refine blk_alloc ?_ _)); exact BK316.out)⟩; have n3_ : Aside0 (Below w.heap.size w wc) := ⟨by rw [← hq_]; exact (by repeat (first | (with_reducible first | exact HB.out | apply below_alloc | apply pw_below_drewN | apply below_drew1 | refine below_set ?_ GE314.out | refine below_set ?_ GE315.out | refine below_set ?_ GE316.out) | exact HB.out))⟩; clear BK314 BK315 BK316 HB hq_; have BK314 := n0_; have BK315 := n1_; have BK316 := n2_; have HB := n3_; clear n0_ n1_ n2_ n3_))) | ((with_reducible refine gate_callee (f := 41) rfl ?_); refine goesL_ (some 32) rfl rfl Tryd.func41 (by kernel_rfl) rfl #[.int .i64 t319] rfl (by (try simp only [List.map_toArray, List.map_cons, List.map_nil]); first | done | rfl | (simp only [List.length_drop, List.length_take]; rfl)) ?_; (with_reducible refine (arith_whole.calls t319 t321 t322 t323 t324 t325 t326 t327 t328 _ A28.out).mono ?_); rintro e w34 ⟨rfl, hb⟩; refine ⟨_, rfl, ?_⟩; have n0_ := Aside0.mk (blk_below (g := gb314) (o := .cells #[.int .i64 a1_0, .bool a1_1, .int .i64 a1_2, .int .i64 a1_3, .string a1_4, .int .i64 a1_5, .int .i64 a1_6, .int .i64 a1_7] 38 (0, 0)) (by (with_reducible repeat (first | refine blk_drewN ?_ _ | refine blk_drew ?_ | refine blk_alloc ?_ _)); exact BK314.out) hb); have n1_ := Aside0.mk (blk_below (g := gb315) (o := .cells #[.int .i64 a2_0, .bool a2_1, .int .i64 a2_2, .int .i64 a2_3, .string a2_4, .int .i64 a2_5, .int .i64 a2_6, .int .i64 a2_7] 38 (0, 0)) (by (with_reducible repeat (first | refine blk_drewN ?_ _ | refine blk_drew ?_ | refine blk_alloc ?_ _)); exact BK315.out) hb); have n2_ := Aside0.mk (blk_below (g := gb316) (o := .cells #[.int .i64 0, .bool false, .int .i64 0, .int .i64 0, .string (⟨#[]⟩ : ByteArray), .int .i64 0, .int .i64 0, .int .i64 0] 38 (0, 0)) (by (with_reducible repeat (first | refine blk_drewN ?_ _ | refine blk_drew ?_ | refine blk_alloc ?_ _)); exact BK316.out) hb); have n3_ := Aside0.mk (below_step (by repeat (first | (with_reducible first | exact HB.out | apply below_alloc | apply pw_below_drewN | apply below_drew1 | refine below_set ?_ GE314.out | refine below_set ?_ GE315.out | refine below_set ?_ GE316.out) | exact HB.out)) hb); clear BK314; clear BK315; clear BK316; clear HB; have BK314 := n0_; have BK315 := n1_; have BK316 := n2_; have HB := n3_; clear n0_ n1_ n2_ n3_; (try clear hb); (try clear hb2); (try clear hk); (try clear hi); obtain ⟨hcz35_0, hcz35_1, hcz35_2, hcz35_3, hcz35_4, hcz35_5, hcz35_6, hcz35_7⟩ := pc8 BK316.out; obtain ⟨hfz35_0, hfz35_1, hfz35_2, hfz35_3, hfz35_4, hfz35_5, hfz35_6, hfz35_7⟩ := pf8 BK316.out))
            refine bodyPost_ret (results_ct rfl _ _ gb316 38 #[.int .i64 t321, .bool t322, .int .i64 t323, .int .i64 t324, .string t325, .int .i64 t326, .int .i64 t327, .int .i64 t328] (0, 0) _ rfl (by (with_reducible repeat (first | refine blk_drewN ?_ _ | refine blk_drew ?_ | refine blk_alloc ?_ _)); refine blk_put (cs := #[.int .i64 t321, .bool t322, .int .i64 t323, .int .i64 t324, .string t325, .int .i64 t326, .int .i64 t327, .int .i64 0]) ?_ 7 _ rfl; (with_reducible repeat (first | refine blk_drewN ?_ _ | refine blk_drew ?_ | refine blk_alloc ?_ _)); refine blk_put (cs := #[.int .i64 t321, .bool t322, .int .i64 t323, .int .i64 t324, .string t325, .int .i64 t326, .int .i64 0, .int .i64 0]) ?_ 6 _ rfl; (with_reducible repeat (first | refine blk_drewN ?_ _ | refine blk_drew ?_ | refine blk_alloc ?_ _)); refine blk_put (cs := #[.int .i64 t321, .bool t322, .int .i64 t323, .int .i64 t324, .string t325, .int .i64 0, .int .i64 0, .int .i64 0]) ?_ 5 _ rfl; (with_reducible repeat (first | refine blk_drewN ?_ _ | refine blk_drew ?_ | refine blk_alloc ?_ _)); refine blk_put (cs := #[.int .i64 t321, .bool t322, .int .i64 t323, .int .i64 t324, .string (⟨#[]⟩ : ByteArray), .int .i64 0, .int .i64 0, .int .i64 0]) ?_ 4 _ rfl; (with_reducible repeat (first | refine blk_drewN ?_ _ | refine blk_drew ?_ | refine blk_alloc ?_ _)); refine blk_put (cs := #[.int .i64 t321, .bool t322, .int .i64 t323, .int .i64 0, .string (⟨#[]⟩ : ByteArray), .int .i64 0, .int .i64 0, .int .i64 0]) ?_ 3 _ rfl; (with_reducible repeat (first | refine blk_drewN ?_ _ | refine blk_drew ?_ | refine blk_alloc ?_ _)); refine blk_put (cs := #[.int .i64 t321, .bool t322, .int .i64 0, .int .i64 0, .string (⟨#[]⟩ : ByteArray), .int .i64 0, .int .i64 0, .int .i64 0]) ?_ 2 _ rfl; (with_reducible repeat (first | refine blk_drewN ?_ _ | refine blk_drew ?_ | refine blk_alloc ?_ _)); refine blk_put (cs := #[.int .i64 t321, .bool false, .int .i64 0, .int .i64 0, .string (⟨#[]⟩ : ByteArray), .int .i64 0, .int .i64 0, .int .i64 0]) ?_ 1 _ rfl; (with_reducible repeat (first | refine blk_drewN ?_ _ | refine blk_drew ?_ | refine blk_alloc ?_ _)); refine blk_put (cs := #[.int .i64 0, .bool false, .int .i64 0, .int .i64 0, .string (⟨#[]⟩ : ByteArray), .int .i64 0, .int .i64 0, .int .i64 0]) ?_ 0 _ rfl; (with_reducible repeat (first | refine blk_drewN ?_ _ | refine blk_drew ?_ | refine blk_alloc ?_ _)); exact BK316.out) Tryd.underlying38 rfl (by kernel_rfl)) rfl ?_
            exact ⟨by first | rfl | (simp [errW_none, errW_some] <;> rfl) | (simp [*, errW_none, errW_some] <;> rfl), by repeat (first | (with_reducible first | exact HB.out | apply below_alloc | apply pw_below_drewN | apply below_drew1 | refine below_set ?_ GE314.out | refine below_set ?_ GE315.out | refine below_set ?_ GE316.out) | exact HB.out)⟩
          · replace c27 := Bool.eq_false_iff.mpr c27
            subst c27
            have H1 : (arith_sums.j1 kj3 a0 a1_0 a1_1 a1_2 a1_3 a1_4 a1_5 a1_6 a1_7 a2_0 a2_1 a2_2 a2_3 a2_4 a2_5 a2_6 a2_7) = some (r1, r2, r3, r4, r5, r6, r7, r8, r9) := by rw [if_neg (show ¬ (false = true) by decide)] at H; exact H
            clear H
            have H := H1
            clear H1
            have H' := Aside0.mk H
            clear H
            have hnb36 := NB314_315.out
            have hnc36 := NB315_314.out
            have hnb37 := NB314_316.out
            have hnc37 := NB316_314.out
            have hcz38_0 : wc.cell? ⟨gb314, 0, none⟩ = some (.int .i64 a1_0) := (blk_cell BK314.out 0).trans rfl
            have hcz38_1 : wc.cell? ⟨gb314, 1, none⟩ = some (.bool a1_1) := (blk_cell BK314.out 1).trans rfl
            have hcz38_2 : wc.cell? ⟨gb314, 2, none⟩ = some (.int .i64 a1_2) := (blk_cell BK314.out 2).trans rfl
            have hcz38_3 : wc.cell? ⟨gb314, 3, none⟩ = some (.int .i64 a1_3) := (blk_cell BK314.out 3).trans rfl
            have hcz38_4 : wc.cell? ⟨gb314, 4, none⟩ = some (.string a1_4) := (blk_cell BK314.out 4).trans rfl
            have hcz38_5 : wc.cell? ⟨gb314, 5, none⟩ = some (.int .i64 a1_5) := (blk_cell BK314.out 5).trans rfl
            have hcz38_6 : wc.cell? ⟨gb314, 6, none⟩ = some (.int .i64 a1_6) := (blk_cell BK314.out 6).trans rfl
            have hcz38_7 : wc.cell? ⟨gb314, 7, none⟩ = some (.int .i64 a1_7) := (blk_cell BK314.out 7).trans rfl
            have hfz38_0 := blk_frozen BK314.out 0
            have hfz38_1 := blk_frozen BK314.out 1
            have hfz38_2 := blk_frozen BK314.out 2
            have hfz38_3 := blk_frozen BK314.out 3
            have hfz38_4 := blk_frozen BK314.out 4
            have hfz38_5 := blk_frozen BK314.out 5
            have hfz38_6 := blk_frozen BK314.out 6
            have hfz38_7 := blk_frozen BK314.out 7
            have hnb39 := NB315_316.out
            have hnc39 := NB316_315.out
            have hcz40_0 : wc.cell? ⟨gb315, 0, none⟩ = some (.int .i64 a2_0) := (blk_cell BK315.out 0).trans rfl
            have hcz40_1 : wc.cell? ⟨gb315, 1, none⟩ = some (.bool a2_1) := (blk_cell BK315.out 1).trans rfl
            have hcz40_2 : wc.cell? ⟨gb315, 2, none⟩ = some (.int .i64 a2_2) := (blk_cell BK315.out 2).trans rfl
            have hcz40_3 : wc.cell? ⟨gb315, 3, none⟩ = some (.int .i64 a2_3) := (blk_cell BK315.out 3).trans rfl
            have hcz40_4 : wc.cell? ⟨gb315, 4, none⟩ = some (.string a2_4) := (blk_cell BK315.out 4).trans rfl
            have hcz40_5 : wc.cell? ⟨gb315, 5, none⟩ = some (.int .i64 a2_5) := (blk_cell BK315.out 5).trans rfl
            have hcz40_6 : wc.cell? ⟨gb315, 6, none⟩ = some (.int .i64 a2_6) := (blk_cell BK315.out 6).trans rfl
            have hcz40_7 : wc.cell? ⟨gb315, 7, none⟩ = some (.int .i64 a2_7) := (blk_cell BK315.out 7).trans rfl
            have hfz40_0 := blk_frozen BK315.out 0
            have hfz40_1 := blk_frozen BK315.out 1
            have hfz40_2 := blk_frozen BK315.out 2
            have hfz40_3 := blk_frozen BK315.out 3
            have hfz40_4 := blk_frozen BK315.out 4
            have hfz40_5 := blk_frozen BK315.out 5
            have hfz40_6 := blk_frozen BK315.out 6
            have hfz40_7 := blk_frozen BK315.out 7
            go_wp2_with (first | ((with_reducible refine gate_callee (f := 74) rfl ?_); refine goesL_ (some 28) rfl rfl Tryd.func74 (by kernel_rfl) rfl #[.string a0, .int .i64 a1_3, .int .i64 a2_3] rfl (by (try simp only [List.map_toArray, List.map_cons, List.map_nil]); first | done | rfl | (simp only [List.length_drop, List.length_take]; rfl)) ?_; (with_reducible refine (arith_exact.calls a0 a1_3 a2_3 t319 _ A25.out).mono ?_); rintro e w' ⟨rfl, ⟨nd, rfl⟩⟩; refine ⟨_, rfl, ?_⟩) | ((with_reducible refine gate_callee (f := 61) rfl ?_); refine goesL_ (some 30) rfl rfl Tryd.func61 (by kernel_rfl) rfl #[.int .i64 t319] rfl (by (try simp only [List.map_toArray, List.map_cons, List.map_nil]); first | done | rfl | (simp only [List.length_drop, List.length_take]; rfl)) ?_; (with_reducible refine (arith_small.calls t319 false _ A26.out).mono ?_); rintro e w' ⟨rfl, ⟨nd, rfl⟩⟩; refine ⟨_, rfl, ?_⟩))
            go_meet
            case rel => exact ⟨_, (0), (false), (0), (0), ((⟨#[]⟩ : ByteArray)), (0), (0), (0), H', ⟨by have := HJ3.out; first | omega | exact Nat.le_refl _⟩, ⟨by (with_reducible repeat (first | refine blk_drewN ?_ _ | refine blk_drew ?_ | refine blk_alloc ?_ _)); exact BK314.out⟩, ⟨by (with_reducible repeat (first | refine blk_drewN ?_ _ | refine blk_drew ?_ | refine blk_alloc ?_ _)); exact BK315.out⟩, ⟨by (with_reducible repeat (first | refine blk_drewN ?_ _ | refine blk_drew ?_ | refine blk_alloc ?_ _)); exact BK316.out⟩, ⟨by repeat (first | (with_reducible first | exact HB.out | apply below_alloc | apply pw_below_drewN | apply below_drew1 | refine below_set ?_ GE314.out | refine below_set ?_ GE315.out | refine below_set ?_ GE316.out) | exact HB.out)⟩⟩
        · replace c24 := Bool.eq_false_iff.mpr c24
          subst c24
          have H1 : (arith_sums.j1 kj3 a0 a1_0 a1_1 a1_2 a1_3 a1_4 a1_5 a1_6 a1_7 a2_0 a2_1 a2_2 a2_3 a2_4 a2_5 a2_6 a2_7) = some (r1, r2, r3, r4, r5, r6, r7, r8, r9) := by rw [if_neg (show ¬ (false = true) by decide)] at H; exact H
          clear H
          have H := H1
          clear H1
          have H' := Aside0.mk H
          clear H
          go_wp2
          go_meet
          case rel => exact ⟨_, (0), (false), (0), (0), ((⟨#[]⟩ : ByteArray)), (0), (0), (0), H', ⟨by have := HJ3.out; first | omega | exact Nat.le_refl _⟩, ⟨by (with_reducible repeat (first | refine blk_drewN ?_ _ | refine blk_drew ?_ | refine blk_alloc ?_ _)); exact BK314.out⟩, ⟨by (with_reducible repeat (first | refine blk_drewN ?_ _ | refine blk_drew ?_ | refine blk_alloc ?_ _)); exact BK315.out⟩, ⟨by (with_reducible repeat (first | refine blk_drewN ?_ _ | refine blk_drew ?_ | refine blk_alloc ?_ _)); exact BK316.out⟩, ⟨by repeat (first | (with_reducible first | exact HB.out | apply below_alloc | apply pw_below_drewN | apply below_drew1 | refine below_set ?_ GE314.out | refine below_set ?_ GE315.out | refine below_set ?_ GE316.out) | exact HB.out)⟩⟩
      case rest =>
        clear HC23
        try clear c1
        try clear c2
        try clear p2
        try clear c3
        try clear c4
        try clear c5
        try clear c6
        try clear c7
        try clear c8
        try clear c8b0
        try clear c8b1
        try clear c10
        try clear c12
        try clear c13
        try clear c16
        try clear c19
        try clear c20
        try clear c24
        try clear c27
        try clear c29
        try clear c30
        try clear c32
        try clear c36
        try clear c37
        try clear c39
        try clear hcz14_0
        try clear hcz14_1
        try clear hcz14_2
        try clear hcz14_3
        try clear hcz14_4
        try clear hcz14_5
        try clear hcz14_6
        try clear hcz14_7
        try clear hcz17_0
        try clear hcz17_1
        try clear hcz17_2
        try clear hcz17_3
        try clear hcz17_4
        try clear hcz17_5
        try clear hcz17_6
        try clear hcz17_7
        try clear hcz21_0
        try clear hcz21_1
        try clear hcz21_2
        try clear hcz21_3
        try clear hcz21_4
        try clear hcz21_5
        try clear hcz21_6
        try clear hcz21_7
        try clear hcz31_0
        try clear hcz31_1
        try clear hcz31_2
        try clear hcz31_3
        try clear hcz31_4
        try clear hcz31_5
        try clear hcz31_6
        try clear hcz31_7
        try clear hcz33_0
        try clear hcz33_1
        try clear hcz33_2
        try clear hcz33_3
        try clear hcz33_4
        try clear hcz33_5
        try clear hcz33_6
        try clear hcz33_7
        try clear hcz35_0
        try clear hcz35_1
        try clear hcz35_2
        try clear hcz35_3
        try clear hcz35_4
        try clear hcz35_5
        try clear hcz35_6
        try clear hcz35_7
        try clear hcz38_0
        try clear hcz38_1
        try clear hcz38_2
        try clear hcz38_3
        try clear hcz38_4
        try clear hcz38_5
        try clear hcz38_6
        try clear hcz38_7
        try clear hcz40_0
        try clear hcz40_1
        try clear hcz40_2
        try clear hcz40_3
        try clear hcz40_4
        try clear hcz40_5
        try clear hcz40_6
        try clear hcz40_7
        try clear hfz14_0
        try clear hfz14_1
        try clear hfz14_2
        try clear hfz14_3
        try clear hfz14_4
        try clear hfz14_5
        try clear hfz14_6
        try clear hfz14_7
        try clear hfz17_0
        try clear hfz17_1
        try clear hfz17_2
        try clear hfz17_3
        try clear hfz17_4
        try clear hfz17_5
        try clear hfz17_6
        try clear hfz17_7
        try clear hfz21_0
        try clear hfz21_1
        try clear hfz21_2
        try clear hfz21_3
        try clear hfz21_4
        try clear hfz21_5
        try clear hfz21_6
        try clear hfz21_7
        try clear hfz31_0
        try clear hfz31_1
        try clear hfz31_2
        try clear hfz31_3
        try clear hfz31_4
        try clear hfz31_5
        try clear hfz31_6
        try clear hfz31_7
        try clear hfz33_0
        try clear hfz33_1
        try clear hfz33_2
        try clear hfz33_3
        try clear hfz33_4
        try clear hfz33_5
        try clear hfz33_6
        try clear hfz33_7
        try clear hfz35_0
        try clear hfz35_1
        try clear hfz35_2
        try clear hfz35_3
        try clear hfz35_4
        try clear hfz35_5
        try clear hfz35_6
        try clear hfz35_7
        try clear hfz38_0
        try clear hfz38_1
        try clear hfz38_2
        try clear hfz38_3
        try clear hfz38_4
        try clear hfz38_5
        try clear hfz38_6
        try clear hfz38_7
        try clear hfz40_0
        try clear hfz40_1
        try clear hfz40_2
        try clear hfz40_3
        try clear hfz40_4
        try clear hfz40_5
        try clear hfz40_6
        try clear hfz40_7
        try clear p2
        obtain ⟨kq, x317000_22, x317001_22, x317002_22, x317003_22, x317004_22, x317005_22, x317006_22, x317007_22, HA, HJ22, BK314, BK315, BK316, HB⟩ := hcut
        cases kq with
        | zero => exact absurd HA.out (by simp [arith_sums.j1])
        | succ kj22 =>
          have H := HA.out
          clear HA
          simp only [arith_sums.j1] at H
          replace H := Option.bind_eq_some_iff.mp H
          obtain ⟨⟨t329, t330⟩, A410, H⟩ := H
          replace H : (if t330 = 0 then ((arith_asReal.f a2_0 a2_1 a2_2 a2_3 a2_4 a2_5 a2_6 a2_7).bind fun bt331 => (if bt331.2 = 0 then ((arith_inexact.f kj22 a0 t329 bt331.1).bind fun bt333 => (if bt333.2 = 0 then ((arith_real.f bt333.1).bind fun bt335 => (some (bt335.1, bt335.2.1, bt335.2.2.1, bt335.2.2.2.1, bt335.2.2.2.2.1, bt335.2.2.2.2.2.1, bt335.2.2.2.2.2.2.1, bt335.2.2.2.2.2.2.2, 0))) else (some (0, false, 0, 0, (⟨#[]⟩ : ByteArray), 0, 0, 0, bt333.2)))) else (some (0, false, 0, 0, (⟨#[]⟩ : ByteArray), 0, 0, 0, bt331.2)))) else (some (0, false, 0, 0, (⟨#[]⟩ : ByteArray), 0, 0, 0, t330))) = some (r1, r2, r3, r4, r5, r6, r7, r8, r9) := H
          have A41 := Aside0.mk A410
          clear A410
          by_cases c42 : t330 = 0
          · rw [if_pos c42] at H
            have c42b0 : (t330 == 0) = true := beq_iff_eq.mpr c42
            have c42b1 : (t330 != 0) = false := bne_eq_false_iff_eq.mpr c42
            clear c42
            replace H := Option.bind_eq_some_iff.mp H
            obtain ⟨⟨t331, t332⟩, A430, H⟩ := H
            replace H : (if t332 = 0 then ((arith_inexact.f kj22 a0 t329 t331).bind fun bt333 => (if bt333.2 = 0 then ((arith_real.f bt333.1).bind fun bt335 => (some (bt335.1, bt335.2.1, bt335.2.2.1, bt335.2.2.2.1, bt335.2.2.2.2.1, bt335.2.2.2.2.2.1, bt335.2.2.2.2.2.2.1, bt335.2.2.2.2.2.2.2, 0))) else (some (0, false, 0, 0, (⟨#[]⟩ : ByteArray), 0, 0, 0, bt333.2)))) else (some (0, false, 0, 0, (⟨#[]⟩ : ByteArray), 0, 0, 0, t332))) = some (r1, r2, r3, r4, r5, r6, r7, r8, r9) := H
            have A43 := Aside0.mk A430
            clear A430
            by_cases c44 : t332 = 0
            · rw [if_pos c44] at H
              have c44b0 : (t332 == 0) = true := beq_iff_eq.mpr c44
              have c44b1 : (t332 != 0) = false := bne_eq_false_iff_eq.mpr c44
              clear c44
              replace H := Option.bind_eq_some_iff.mp H
              obtain ⟨⟨t333, t334⟩, A450, H⟩ := H
              replace H : (if t334 = 0 then ((arith_real.f t333).bind fun bt335 => (some (bt335.1, bt335.2.1, bt335.2.2.1, bt335.2.2.2.1, bt335.2.2.2.2.1, bt335.2.2.2.2.2.1, bt335.2.2.2.2.2.2.1, bt335.2.2.2.2.2.2.2, 0))) else (some (0, false, 0, 0, (⟨#[]⟩ : ByteArray), 0, 0, 0, t334))) = some (r1, r2, r3, r4, r5, r6, r7, r8, r9) := H
              have A45 := Aside0.mk A450
              clear A450
              by_cases c46 : t334 = 0
              · rw [if_pos c46] at H
                have c46b0 : (t334 == 0) = true := beq_iff_eq.mpr c46
                have c46b1 : (t334 != 0) = false := bne_eq_false_iff_eq.mpr c46
                clear c46
                replace H := Option.bind_eq_some_iff.mp H
                obtain ⟨⟨t335, t336, t337, t338, t339, t340, t341, t342⟩, A470, H⟩ := H
                replace H : (some (t335, t336, t337, t338, t339, t340, t341, t342, 0)) = some (r1, r2, r3, r4, r5, r6, r7, r8, r9) := H
                have A47 := Aside0.mk A470
                clear A470
                simp only [Option.some.injEq, Prod.mk.injEq] at H
                obtain ⟨rfl, rfl, rfl, rfl, rfl, rfl, rfl, rfl, rfl⟩ := H
                have hnb48 := NB314_315.out
                have hnc48 := NB315_314.out
                have hnb49 := NB314_316.out
                have hnc49 := NB316_314.out
                have hcz50_0 : wc.cell? ⟨gb314, 0, none⟩ = some (.int .i64 a1_0) := (blk_cell BK314.out 0).trans rfl
                have hcz50_1 : wc.cell? ⟨gb314, 1, none⟩ = some (.bool a1_1) := (blk_cell BK314.out 1).trans rfl
                have hcz50_2 : wc.cell? ⟨gb314, 2, none⟩ = some (.int .i64 a1_2) := (blk_cell BK314.out 2).trans rfl
                have hcz50_3 : wc.cell? ⟨gb314, 3, none⟩ = some (.int .i64 a1_3) := (blk_cell BK314.out 3).trans rfl
                have hcz50_4 : wc.cell? ⟨gb314, 4, none⟩ = some (.string a1_4) := (blk_cell BK314.out 4).trans rfl
                have hcz50_5 : wc.cell? ⟨gb314, 5, none⟩ = some (.int .i64 a1_5) := (blk_cell BK314.out 5).trans rfl
                have hcz50_6 : wc.cell? ⟨gb314, 6, none⟩ = some (.int .i64 a1_6) := (blk_cell BK314.out 6).trans rfl
                have hcz50_7 : wc.cell? ⟨gb314, 7, none⟩ = some (.int .i64 a1_7) := (blk_cell BK314.out 7).trans rfl
                have hfz50_0 := blk_frozen BK314.out 0
                have hfz50_1 := blk_frozen BK314.out 1
                have hfz50_2 := blk_frozen BK314.out 2
                have hfz50_3 := blk_frozen BK314.out 3
                have hfz50_4 := blk_frozen BK314.out 4
                have hfz50_5 := blk_frozen BK314.out 5
                have hfz50_6 := blk_frozen BK314.out 6
                have hfz50_7 := blk_frozen BK314.out 7
                go_wp2_with (first | ((with_reducible refine gate_callee (f := 63) rfl ?_); refine goesL_ (some 35) rfl rfl Tryd.func63 (by kernel_rfl) rfl #[.agg #[.int .i64 a1_0, .bool a1_1, .int .i64 a1_2, .int .i64 a1_3, .string a1_4, .int .i64 a1_5, .int .i64 a1_6, .int .i64 a1_7]] rfl (by (try simp only [List.map_toArray, List.map_cons, List.map_nil]); first | done | rfl | (simp only [List.length_drop, List.length_take]; rfl)) ?_; (with_reducible refine (arith_asReal.calls a1_0 a1_1 a1_2 a1_3 a1_4 a1_5 a1_6 a1_7 t329 t330 _ A41.out).mono ?_); rintro e w51 ⟨rfl, hb⟩; refine ⟨_, rfl, ?_⟩; have n0_ := Aside0.mk (blk_below (g := gb314) (o := .cells #[.int .i64 a1_0, .bool a1_1, .int .i64 a1_2, .int .i64 a1_3, .string a1_4, .int .i64 a1_5, .int .i64 a1_6, .int .i64 a1_7] 38 (0, 0)) (by (with_reducible repeat (first | refine blk_drewN ?_ _ | refine blk_drew ?_ | refine blk_alloc ?_ _)); exact BK314.out) hb); have n1_ := Aside0.mk (blk_below (g := gb315) (o := .cells #[.int .i64 a2_0, .bool a2_1, .int .i64 a2_2, .int .i64 a2_3, .string a2_4, .int .i64 a2_5, .int .i64 a2_6, .int .i64 a2_7] 38 (0, 0)) (by (with_reducible repeat (first | refine blk_drewN ?_ _ | refine blk_drew ?_ | refine blk_alloc ?_ _)); exact BK315.out) hb); have n2_ := Aside0.mk (blk_below (g := gb316) (o := .cells #[.int .i64 x317000_22, .bool x317001_22, .int .i64 x317002_22, .int .i64 x317003_22, .string x317004_22, .int .i64 x317005_22, .int .i64 x317006_22, .int .i64 x317007_22] 38 (0, 0)) (by (with_reducible repeat (first | refine blk_drewN ?_ _ | refine blk_drew ?_ | refine blk_alloc ?_ _)); exact BK316.out) hb); have n3_ := Aside0.mk (below_step (by repeat (first | (with_reducible first | exact HB.out | apply below_alloc | apply pw_below_drewN | apply below_drew1 | refine below_set ?_ GE314.out | refine below_set ?_ GE315.out | refine below_set ?_ GE316.out) | exact HB.out)) hb); clear BK314; clear BK315; clear BK316; clear HB; have BK314 := n0_; have BK315 := n1_; have BK316 := n2_; have HB := n3_; clear n0_ n1_ n2_ n3_; (try clear hb); (try clear hb2); (try clear hk); (try clear hi); have hnb52 := NB315_316.out; have hnc52 := NB316_315.out; obtain ⟨hcz53_0, hcz53_1, hcz53_2, hcz53_3, hcz53_4, hcz53_5, hcz53_6, hcz53_7⟩ := pc8 BK315.out; obtain ⟨hfz53_0, hfz53_1, hfz53_2, hfz53_3, hfz53_4, hfz53_5, hfz53_6, hfz53_7⟩ := pf8 BK315.out) | ((with_reducible refine gate_callee (f := 63) rfl ?_); refine goesL_ (some 44) rfl rfl Tryd.func63 (by kernel_rfl) rfl #[.agg #[.int .i64 a2_0, .bool a2_1, .int .i64 a2_2, .int .i64 a2_3, .string a2_4, .int .i64 a2_5, .int .i64 a2_6, .int .i64 a2_7]] rfl (by (try simp only [List.map_toArray, List.map_cons, List.map_nil]); first | done | rfl | (simp only [List.length_drop, List.length_take]; rfl)) ?_; (with_reducible refine (arith_asReal.calls a2_0 a2_1 a2_2 a2_3 a2_4 a2_5 a2_6 a2_7 t331 t332 _ A43.out).mono ?_); rintro e w54 ⟨rfl, hb⟩; refine ⟨_, rfl, ?_⟩; have n0_ := Aside0.mk (blk_below (g := gb314) (o := .cells #[.int .i64 a1_0, .bool a1_1, .int .i64 a1_2, .int .i64 a1_3, .string a1_4, .int .i64 a1_5, .int .i64 a1_6, .int .i64 a1_7] 38 (0, 0)) (by (with_reducible repeat (first | refine blk_drewN ?_ _ | refine blk_drew ?_ | refine blk_alloc ?_ _)); exact BK314.out) hb); have n1_ := Aside0.mk (blk_below (g := gb315) (o := .cells #[.int .i64 a2_0, .bool a2_1, .int .i64 a2_2, .int .i64 a2_3, .string a2_4, .int .i64 a2_5, .int .i64 a2_6, .int .i64 a2_7] 38 (0, 0)) (by (with_reducible repeat (first | refine blk_drewN ?_ _ | refine blk_drew ?_ | refine blk_alloc ?_ _)); exact BK315.out) hb); have n2_ := Aside0.mk (blk_below (g := gb316) (o := .cells #[.int .i64 x317000_22, .bool x317001_22, .int .i64 x317002_22, .int .i64 x317003_22, .string x317004_22, .int .i64 x317005_22, .int .i64 x317006_22, .int .i64 x317007_22] 38 (0, 0)) (by (with_reducible repeat (first | refine blk_drewN ?_ _ | refine blk_drew ?_ | refine blk_alloc ?_ _)); exact BK316.out) hb); have n3_ := Aside0.mk (below_step (by repeat (first | (with_reducible first | exact HB.out | apply below_alloc | apply pw_below_drewN | apply below_drew1 | refine below_set ?_ GE314.out | refine below_set ?_ GE315.out | refine below_set ?_ GE316.out) | exact HB.out)) hb); clear BK314; clear BK315; clear BK316; clear HB; have BK314 := n0_; have BK315 := n1_; have BK316 := n2_; have HB := n3_; clear n0_ n1_ n2_ n3_; (try clear hb); (try clear hb2); (try clear hk); (try clear hi)) | ((with_reducible refine gate_callee (f := 75) rfl ?_); refine goesL_ (some 55) rfl rfl Tryd.func75 (by kernel_rfl) rfl #[.string a0, .int .i64 t329, .int .i64 t331] rfl (by (try simp only [List.map_toArray, List.map_cons, List.map_nil]); first | done | rfl | (simp only [List.length_drop, List.length_take]; rfl)) ?_; (with_reducible refine (arith_inexact.calls kj22 a0 t329 t331 t333 t334 _ A45.out).mono ?_); rintro e w55 ⟨rfl, hb⟩; refine ⟨_, rfl, ?_⟩; have n0_ := Aside0.mk (blk_below (g := gb314) (o := .cells #[.int .i64 a1_0, .bool a1_1, .int .i64 a1_2, .int .i64 a1_3, .string a1_4, .int .i64 a1_5, .int .i64 a1_6, .int .i64 a1_7] 38 (0, 0)) (by (with_reducible repeat (first | refine blk_drewN ?_ _ | refine blk_drew ?_ | refine blk_alloc ?_ _)); exact BK314.out) hb); have n1_ := Aside0.mk (blk_below (g := gb315) (o := .cells #[.int .i64 a2_0, .bool a2_1, .int .i64 a2_2, .int .i64 a2_3, .string a2_4, .int .i64 a2_5, .int .i64 a2_6, .int .i64 a2_7] 38 (0, 0)) (by (with_reducible repeat (first | refine blk_drewN ?_ _ | refine blk_drew ?_ | refine blk_alloc ?_ _)); exact BK315.out) hb); have n2_ := Aside0.mk (blk_below (g := gb316) (o := .cells #[.int .i64 x317000_22, .bool x317001_22, .int .i64 x317002_22, .int .i64 x317003_22, .string x317004_22, .int .i64 x317005_22, .int .i64 x317006_22, .int .i64 x317007_22] 38 (0, 0)) (by (with_reducible repeat (first | refine blk_drewN ?_ _ | refine blk_drew ?_ | refine blk_alloc ?_ _)); exact BK316.out) hb); have n3_ := Aside0.mk (below_step (by repeat (first | (with_reducible first | exact HB.out | apply below_alloc | apply pw_below_drewN | apply below_drew1 | refine below_set ?_ GE314.out | refine below_set ?_ GE315.out | refine below_set ?_ GE316.out) | exact HB.out)) hb); clear BK314; clear BK315; clear BK316; clear HB; have BK314 := n0_; have BK315 := n1_; have BK316 := n2_; have HB := n3_; clear n0_ n1_ n2_ n3_; (try clear hb); (try clear hb2); (try clear hk); (try clear hi)) | ((with_reducible refine gate_callee (f := 65) rfl ?_); refine goesL_ (some 63) rfl rfl Tryd.func65 (by kernel_rfl) rfl #[.int .i64 t333] rfl (by (try simp only [List.map_toArray, List.map_cons, List.map_nil]); first | done | rfl | (simp only [List.length_drop, List.length_take]; rfl)) ?_; (with_reducible refine (arith_real.calls t333 t335 t336 t337 t338 t339 t340 t341 t342 _ A47.out).mono ?_); rintro e w56 ⟨rfl, hb⟩; refine ⟨_, rfl, ?_⟩; have n0_ := Aside0.mk (blk_below (g := gb314) (o := .cells #[.int .i64 a1_0, .bool a1_1, .int .i64 a1_2, .int .i64 a1_3, .string a1_4, .int .i64 a1_5, .int .i64 a1_6, .int .i64 a1_7] 38 (0, 0)) (by (with_reducible repeat (first | refine blk_drewN ?_ _ | refine blk_drew ?_ | refine blk_alloc ?_ _)); exact BK314.out) hb); have n1_ := Aside0.mk (blk_below (g := gb315) (o := .cells #[.int .i64 a2_0, .bool a2_1, .int .i64 a2_2, .int .i64 a2_3, .string a2_4, .int .i64 a2_5, .int .i64 a2_6, .int .i64 a2_7] 38 (0, 0)) (by (with_reducible repeat (first | refine blk_drewN ?_ _ | refine blk_drew ?_ | refine blk_alloc ?_ _)); exact BK315.out) hb); have n2_ := Aside0.mk (blk_below (g := gb316) (o := .cells #[.int .i64 x317000_22, .bool x317001_22, .int .i64 x317002_22, .int .i64 x317003_22, .string x317004_22, .int .i64 x317005_22, .int .i64 x317006_22, .int .i64 x317007_22] 38 (0, 0)) (by (with_reducible repeat (first | refine blk_drewN ?_ _ | refine blk_drew ?_ | refine blk_alloc ?_ _)); exact BK316.out) hb); have n3_ := Aside0.mk (below_step (by repeat (first | (with_reducible first | exact HB.out | apply below_alloc | apply pw_below_drewN | apply below_drew1 | refine below_set ?_ GE314.out | refine below_set ?_ GE315.out | refine below_set ?_ GE316.out) | exact HB.out)) hb); clear BK314; clear BK315; clear BK316; clear HB; have BK314 := n0_; have BK315 := n1_; have BK316 := n2_; have HB := n3_; clear n0_ n1_ n2_ n3_; (try clear hb); (try clear hb2); (try clear hk); (try clear hi); obtain ⟨hcz57_0, hcz57_1, hcz57_2, hcz57_3, hcz57_4, hcz57_5, hcz57_6, hcz57_7⟩ := pc8 BK316.out; obtain ⟨hfz57_0, hfz57_1, hfz57_2, hfz57_3, hfz57_4, hfz57_5, hfz57_6, hfz57_7⟩ := pf8 BK316.out))
                refine bodyPost_ret (results_ct rfl _ _ gb316 38 #[.int .i64 t335, .bool t336, .int .i64 t337, .int .i64 t338, .string t339, .int .i64 t340, .int .i64 t341, .int .i64 t342] (0, 0) _ rfl (by (with_reducible repeat (first | refine blk_drewN ?_ _ | refine blk_drew ?_ | refine blk_alloc ?_ _)); refine blk_put (cs := #[.int .i64 t335, .bool t336, .int .i64 t337, .int .i64 t338, .string t339, .int .i64 t340, .int .i64 t341, .int .i64 x317007_22]) ?_ 7 _ rfl; (with_reducible repeat (first | refine blk_drewN ?_ _ | refine blk_drew ?_ | refine blk_alloc ?_ _)); refine blk_put (cs := #[.int .i64 t335, .bool t336, .int .i64 t337, .int .i64 t338, .string t339, .int .i64 t340, .int .i64 x317006_22, .int .i64 x317007_22]) ?_ 6 _ rfl; (with_reducible repeat (first | refine blk_drewN ?_ _ | refine blk_drew ?_ | refine blk_alloc ?_ _)); refine blk_put (cs := #[.int .i64 t335, .bool t336, .int .i64 t337, .int .i64 t338, .string t339, .int .i64 x317005_22, .int .i64 x317006_22, .int .i64 x317007_22]) ?_ 5 _ rfl; (with_reducible repeat (first | refine blk_drewN ?_ _ | refine blk_drew ?_ | refine blk_alloc ?_ _)); refine blk_put (cs := #[.int .i64 t335, .bool t336, .int .i64 t337, .int .i64 t338, .string x317004_22, .int .i64 x317005_22, .int .i64 x317006_22, .int .i64 x317007_22]) ?_ 4 _ rfl; (with_reducible repeat (first | refine blk_drewN ?_ _ | refine blk_drew ?_ | refine blk_alloc ?_ _)); refine blk_put (cs := #[.int .i64 t335, .bool t336, .int .i64 t337, .int .i64 x317003_22, .string x317004_22, .int .i64 x317005_22, .int .i64 x317006_22, .int .i64 x317007_22]) ?_ 3 _ rfl; (with_reducible repeat (first | refine blk_drewN ?_ _ | refine blk_drew ?_ | refine blk_alloc ?_ _)); refine blk_put (cs := #[.int .i64 t335, .bool t336, .int .i64 x317002_22, .int .i64 x317003_22, .string x317004_22, .int .i64 x317005_22, .int .i64 x317006_22, .int .i64 x317007_22]) ?_ 2 _ rfl; (with_reducible repeat (first | refine blk_drewN ?_ _ | refine blk_drew ?_ | refine blk_alloc ?_ _)); refine blk_put (cs := #[.int .i64 t335, .bool x317001_22, .int .i64 x317002_22, .int .i64 x317003_22, .string x317004_22, .int .i64 x317005_22, .int .i64 x317006_22, .int .i64 x317007_22]) ?_ 1 _ rfl; (with_reducible repeat (first | refine blk_drewN ?_ _ | refine blk_drew ?_ | refine blk_alloc ?_ _)); refine blk_put (cs := #[.int .i64 x317000_22, .bool x317001_22, .int .i64 x317002_22, .int .i64 x317003_22, .string x317004_22, .int .i64 x317005_22, .int .i64 x317006_22, .int .i64 x317007_22]) ?_ 0 _ rfl; (with_reducible repeat (first | refine blk_drewN ?_ _ | refine blk_drew ?_ | refine blk_alloc ?_ _)); exact BK316.out) Tryd.underlying38 rfl (by kernel_rfl)) rfl ?_
                exact ⟨by first | rfl | (simp [errW_none, errW_some] <;> rfl) | (simp [*, errW_none, errW_some] <;> rfl), by repeat (first | (with_reducible first | exact HB.out | apply below_alloc | apply pw_below_drewN | apply below_drew1 | refine below_set ?_ GE314.out | refine below_set ?_ GE315.out | refine below_set ?_ GE316.out) | exact HB.out)⟩
              · rw [if_neg c46] at H
                have c46b0 : (t334 == 0) = false := beq_eq_false_iff_ne.mpr c46
                have c46b1 : (t334 != 0) = true := bne_iff_ne.mpr c46
                simp only [Option.some.injEq, Prod.mk.injEq] at H
                obtain ⟨rfl, rfl, rfl, rfl, rfl, rfl, rfl, rfl, rfl⟩ := H
                have hnb58 := NB314_315.out
                have hnc58 := NB315_314.out
                have hnb59 := NB314_316.out
                have hnc59 := NB316_314.out
                have hcz60_0 : wc.cell? ⟨gb314, 0, none⟩ = some (.int .i64 a1_0) := (blk_cell BK314.out 0).trans rfl
                have hcz60_1 : wc.cell? ⟨gb314, 1, none⟩ = some (.bool a1_1) := (blk_cell BK314.out 1).trans rfl
                have hcz60_2 : wc.cell? ⟨gb314, 2, none⟩ = some (.int .i64 a1_2) := (blk_cell BK314.out 2).trans rfl
                have hcz60_3 : wc.cell? ⟨gb314, 3, none⟩ = some (.int .i64 a1_3) := (blk_cell BK314.out 3).trans rfl
                have hcz60_4 : wc.cell? ⟨gb314, 4, none⟩ = some (.string a1_4) := (blk_cell BK314.out 4).trans rfl
                have hcz60_5 : wc.cell? ⟨gb314, 5, none⟩ = some (.int .i64 a1_5) := (blk_cell BK314.out 5).trans rfl
                have hcz60_6 : wc.cell? ⟨gb314, 6, none⟩ = some (.int .i64 a1_6) := (blk_cell BK314.out 6).trans rfl
                have hcz60_7 : wc.cell? ⟨gb314, 7, none⟩ = some (.int .i64 a1_7) := (blk_cell BK314.out 7).trans rfl
                have hfz60_0 := blk_frozen BK314.out 0
                have hfz60_1 := blk_frozen BK314.out 1
                have hfz60_2 := blk_frozen BK314.out 2
                have hfz60_3 := blk_frozen BK314.out 3
                have hfz60_4 := blk_frozen BK314.out 4
                have hfz60_5 := blk_frozen BK314.out 5
                have hfz60_6 := blk_frozen BK314.out 6
                have hfz60_7 := blk_frozen BK314.out 7
                go_wp2_with (first | ((with_reducible refine gate_callee (f := 63) rfl ?_); refine goesL_ (some 35) rfl rfl Tryd.func63 (by kernel_rfl) rfl #[.agg #[.int .i64 a1_0, .bool a1_1, .int .i64 a1_2, .int .i64 a1_3, .string a1_4, .int .i64 a1_5, .int .i64 a1_6, .int .i64 a1_7]] rfl (by (try simp only [List.map_toArray, List.map_cons, List.map_nil]); first | done | rfl | (simp only [List.length_drop, List.length_take]; rfl)) ?_; (with_reducible refine (arith_asReal.calls a1_0 a1_1 a1_2 a1_3 a1_4 a1_5 a1_6 a1_7 t329 t330 _ A41.out).mono ?_); rintro e w61 ⟨rfl, hb⟩; refine ⟨_, rfl, ?_⟩; have n0_ := Aside0.mk (blk_below (g := gb314) (o := .cells #[.int .i64 a1_0, .bool a1_1, .int .i64 a1_2, .int .i64 a1_3, .string a1_4, .int .i64 a1_5, .int .i64 a1_6, .int .i64 a1_7] 38 (0, 0)) (by (with_reducible repeat (first | refine blk_drewN ?_ _ | refine blk_drew ?_ | refine blk_alloc ?_ _)); exact BK314.out) hb); have n1_ := Aside0.mk (blk_below (g := gb315) (o := .cells #[.int .i64 a2_0, .bool a2_1, .int .i64 a2_2, .int .i64 a2_3, .string a2_4, .int .i64 a2_5, .int .i64 a2_6, .int .i64 a2_7] 38 (0, 0)) (by (with_reducible repeat (first | refine blk_drewN ?_ _ | refine blk_drew ?_ | refine blk_alloc ?_ _)); exact BK315.out) hb); have n2_ := Aside0.mk (blk_below (g := gb316) (o := .cells #[.int .i64 x317000_22, .bool x317001_22, .int .i64 x317002_22, .int .i64 x317003_22, .string x317004_22, .int .i64 x317005_22, .int .i64 x317006_22, .int .i64 x317007_22] 38 (0, 0)) (by (with_reducible repeat (first | refine blk_drewN ?_ _ | refine blk_drew ?_ | refine blk_alloc ?_ _)); exact BK316.out) hb); have n3_ := Aside0.mk (below_step (by repeat (first | (with_reducible first | exact HB.out | apply below_alloc | apply pw_below_drewN | apply below_drew1 | refine below_set ?_ GE314.out | refine below_set ?_ GE315.out | refine below_set ?_ GE316.out) | exact HB.out)) hb); clear BK314; clear BK315; clear BK316; clear HB; have BK314 := n0_; have BK315 := n1_; have BK316 := n2_; have HB := n3_; clear n0_ n1_ n2_ n3_; (try clear hb); (try clear hb2); (try clear hk); (try clear hi); have hnb62 := NB315_316.out; have hnc62 := NB316_315.out; obtain ⟨hcz63_0, hcz63_1, hcz63_2, hcz63_3, hcz63_4, hcz63_5, hcz63_6, hcz63_7⟩ := pc8 BK315.out; obtain ⟨hfz63_0, hfz63_1, hfz63_2, hfz63_3, hfz63_4, hfz63_5, hfz63_6, hfz63_7⟩ := pf8 BK315.out) | ((with_reducible refine gate_callee (f := 63) rfl ?_); refine goesL_ (some 44) rfl rfl Tryd.func63 (by kernel_rfl) rfl #[.agg #[.int .i64 a2_0, .bool a2_1, .int .i64 a2_2, .int .i64 a2_3, .string a2_4, .int .i64 a2_5, .int .i64 a2_6, .int .i64 a2_7]] rfl (by (try simp only [List.map_toArray, List.map_cons, List.map_nil]); first | done | rfl | (simp only [List.length_drop, List.length_take]; rfl)) ?_; (with_reducible refine (arith_asReal.calls a2_0 a2_1 a2_2 a2_3 a2_4 a2_5 a2_6 a2_7 t331 t332 _ A43.out).mono ?_); rintro e w64 ⟨rfl, hb⟩; refine ⟨_, rfl, ?_⟩; have n0_ := Aside0.mk (blk_below (g := gb314) (o := .cells #[.int .i64 a1_0, .bool a1_1, .int .i64 a1_2, .int .i64 a1_3, .string a1_4, .int .i64 a1_5, .int .i64 a1_6, .int .i64 a1_7] 38 (0, 0)) (by (with_reducible repeat (first | refine blk_drewN ?_ _ | refine blk_drew ?_ | refine blk_alloc ?_ _)); exact BK314.out) hb); have n1_ := Aside0.mk (blk_below (g := gb315) (o := .cells #[.int .i64 a2_0, .bool a2_1, .int .i64 a2_2, .int .i64 a2_3, .string a2_4, .int .i64 a2_5, .int .i64 a2_6, .int .i64 a2_7] 38 (0, 0)) (by (with_reducible repeat (first | refine blk_drewN ?_ _ | refine blk_drew ?_ | refine blk_alloc ?_ _)); exact BK315.out) hb); have n2_ := Aside0.mk (blk_below (g := gb316) (o := .cells #[.int .i64 x317000_22, .bool x317001_22, .int .i64 x317002_22, .int .i64 x317003_22, .string x317004_22, .int .i64 x317005_22, .int .i64 x317006_22, .int .i64 x317007_22] 38 (0, 0)) (by (with_reducible repeat (first | refine blk_drewN ?_ _ | refine blk_drew ?_ | refine blk_alloc ?_ _)); exact BK316.out) hb); have n3_ := Aside0.mk (below_step (by repeat (first | (with_reducible first | exact HB.out | apply below_alloc | apply pw_below_drewN | apply below_drew1 | refine below_set ?_ GE314.out | refine below_set ?_ GE315.out | refine below_set ?_ GE316.out) | exact HB.out)) hb); clear BK314; clear BK315; clear BK316; clear HB; have BK314 := n0_; have BK315 := n1_; have BK316 := n2_; have HB := n3_; clear n0_ n1_ n2_ n3_; (try clear hb); (try clear hb2); (try clear hk); (try clear hi)) | ((with_reducible refine gate_callee (f := 75) rfl ?_); refine goesL_ (some 55) rfl rfl Tryd.func75 (by kernel_rfl) rfl #[.string a0, .int .i64 t329, .int .i64 t331] rfl (by (try simp only [List.map_toArray, List.map_cons, List.map_nil]); first | done | rfl | (simp only [List.length_drop, List.length_take]; rfl)) ?_; (with_reducible refine (arith_inexact.calls kj22 a0 t329 t331 t333 t334 _ A45.out).mono ?_); rintro e w65 ⟨rfl, hb⟩; refine ⟨_, rfl, ?_⟩; have n0_ := Aside0.mk (blk_below (g := gb314) (o := .cells #[.int .i64 a1_0, .bool a1_1, .int .i64 a1_2, .int .i64 a1_3, .string a1_4, .int .i64 a1_5, .int .i64 a1_6, .int .i64 a1_7] 38 (0, 0)) (by (with_reducible repeat (first | refine blk_drewN ?_ _ | refine blk_drew ?_ | refine blk_alloc ?_ _)); exact BK314.out) hb); have n1_ := Aside0.mk (blk_below (g := gb315) (o := .cells #[.int .i64 a2_0, .bool a2_1, .int .i64 a2_2, .int .i64 a2_3, .string a2_4, .int .i64 a2_5, .int .i64 a2_6, .int .i64 a2_7] 38 (0, 0)) (by (with_reducible repeat (first | refine blk_drewN ?_ _ | refine blk_drew ?_ | refine blk_alloc ?_ _)); exact BK315.out) hb); have n2_ := Aside0.mk (blk_below (g := gb316) (o := .cells #[.int .i64 x317000_22, .bool x317001_22, .int .i64 x317002_22, .int .i64 x317003_22, .string x317004_22, .int .i64 x317005_22, .int .i64 x317006_22, .int .i64 x317007_22] 38 (0, 0)) (by (with_reducible repeat (first | refine blk_drewN ?_ _ | refine blk_drew ?_ | refine blk_alloc ?_ _)); exact BK316.out) hb); have n3_ := Aside0.mk (below_step (by repeat (first | (with_reducible first | exact HB.out | apply below_alloc | apply pw_below_drewN | apply below_drew1 | refine below_set ?_ GE314.out | refine below_set ?_ GE315.out | refine below_set ?_ GE316.out) | exact HB.out)) hb); clear BK314; clear BK315; clear BK316; clear HB; have BK314 := n0_; have BK315 := n1_; have BK316 := n2_; have HB := n3_; clear n0_ n1_ n2_ n3_; (try clear hb); (try clear hb2); (try clear hk); (try clear hi); obtain ⟨hcz66_0, hcz66_1, hcz66_2, hcz66_3, hcz66_4, hcz66_5, hcz66_6, hcz66_7⟩ := pc8 BK316.out; obtain ⟨hfz66_0, hfz66_1, hfz66_2, hfz66_3, hfz66_4, hfz66_5, hfz66_6, hfz66_7⟩ := pf8 BK316.out))
                refine bodyPost_ret (results_ct rfl _ _ gb316 38 #[.int .i64 0, .bool false, .int .i64 0, .int .i64 0, .string (⟨#[]⟩ : ByteArray), .int .i64 0, .int .i64 0, .int .i64 0] (0, 0) _ rfl (by (with_reducible repeat (first | refine blk_drewN ?_ _ | refine blk_drew ?_ | refine blk_alloc ?_ _)); refine blk_put (cs := #[.int .i64 0, .bool false, .int .i64 0, .int .i64 0, .string (⟨#[]⟩ : ByteArray), .int .i64 0, .int .i64 0, .int .i64 x317007_22]) ?_ 7 _ rfl; (with_reducible repeat (first | refine blk_drewN ?_ _ | refine blk_drew ?_ | refine blk_alloc ?_ _)); refine blk_put (cs := #[.int .i64 0, .bool false, .int .i64 0, .int .i64 0, .string (⟨#[]⟩ : ByteArray), .int .i64 0, .int .i64 x317006_22, .int .i64 x317007_22]) ?_ 6 _ rfl; (with_reducible repeat (first | refine blk_drewN ?_ _ | refine blk_drew ?_ | refine blk_alloc ?_ _)); refine blk_put (cs := #[.int .i64 0, .bool false, .int .i64 0, .int .i64 0, .string (⟨#[]⟩ : ByteArray), .int .i64 x317005_22, .int .i64 x317006_22, .int .i64 x317007_22]) ?_ 5 _ rfl; (with_reducible repeat (first | refine blk_drewN ?_ _ | refine blk_drew ?_ | refine blk_alloc ?_ _)); refine blk_put (cs := #[.int .i64 0, .bool false, .int .i64 0, .int .i64 0, .string x317004_22, .int .i64 x317005_22, .int .i64 x317006_22, .int .i64 x317007_22]) ?_ 4 _ rfl; (with_reducible repeat (first | refine blk_drewN ?_ _ | refine blk_drew ?_ | refine blk_alloc ?_ _)); refine blk_put (cs := #[.int .i64 0, .bool false, .int .i64 0, .int .i64 x317003_22, .string x317004_22, .int .i64 x317005_22, .int .i64 x317006_22, .int .i64 x317007_22]) ?_ 3 _ rfl; (with_reducible repeat (first | refine blk_drewN ?_ _ | refine blk_drew ?_ | refine blk_alloc ?_ _)); refine blk_put (cs := #[.int .i64 0, .bool false, .int .i64 x317002_22, .int .i64 x317003_22, .string x317004_22, .int .i64 x317005_22, .int .i64 x317006_22, .int .i64 x317007_22]) ?_ 2 _ rfl; (with_reducible repeat (first | refine blk_drewN ?_ _ | refine blk_drew ?_ | refine blk_alloc ?_ _)); refine blk_put (cs := #[.int .i64 0, .bool x317001_22, .int .i64 x317002_22, .int .i64 x317003_22, .string x317004_22, .int .i64 x317005_22, .int .i64 x317006_22, .int .i64 x317007_22]) ?_ 1 _ rfl; (with_reducible repeat (first | refine blk_drewN ?_ _ | refine blk_drew ?_ | refine blk_alloc ?_ _)); refine blk_put (cs := #[.int .i64 x317000_22, .bool x317001_22, .int .i64 x317002_22, .int .i64 x317003_22, .string x317004_22, .int .i64 x317005_22, .int .i64 x317006_22, .int .i64 x317007_22]) ?_ 0 _ rfl; (with_reducible repeat (first | refine blk_drewN ?_ _ | refine blk_drew ?_ | refine blk_alloc ?_ _)); exact BK316.out) Tryd.underlying38 rfl (by kernel_rfl)) rfl ?_
                exact ⟨by first | rfl | (simp [errW_none, errW_some] <;> rfl) | (simp [*, errW_none, errW_some] <;> rfl), by repeat (first | (with_reducible first | exact HB.out | apply below_alloc | apply pw_below_drewN | apply below_drew1 | refine below_set ?_ GE314.out | refine below_set ?_ GE315.out | refine below_set ?_ GE316.out) | exact HB.out)⟩
            · rw [if_neg c44] at H
              have c44b0 : (t332 == 0) = false := beq_eq_false_iff_ne.mpr c44
              have c44b1 : (t332 != 0) = true := bne_iff_ne.mpr c44
              simp only [Option.some.injEq, Prod.mk.injEq] at H
              obtain ⟨rfl, rfl, rfl, rfl, rfl, rfl, rfl, rfl, rfl⟩ := H
              have hnb67 := NB314_315.out
              have hnc67 := NB315_314.out
              have hnb68 := NB314_316.out
              have hnc68 := NB316_314.out
              have hcz69_0 : wc.cell? ⟨gb314, 0, none⟩ = some (.int .i64 a1_0) := (blk_cell BK314.out 0).trans rfl
              have hcz69_1 : wc.cell? ⟨gb314, 1, none⟩ = some (.bool a1_1) := (blk_cell BK314.out 1).trans rfl
              have hcz69_2 : wc.cell? ⟨gb314, 2, none⟩ = some (.int .i64 a1_2) := (blk_cell BK314.out 2).trans rfl
              have hcz69_3 : wc.cell? ⟨gb314, 3, none⟩ = some (.int .i64 a1_3) := (blk_cell BK314.out 3).trans rfl
              have hcz69_4 : wc.cell? ⟨gb314, 4, none⟩ = some (.string a1_4) := (blk_cell BK314.out 4).trans rfl
              have hcz69_5 : wc.cell? ⟨gb314, 5, none⟩ = some (.int .i64 a1_5) := (blk_cell BK314.out 5).trans rfl
              have hcz69_6 : wc.cell? ⟨gb314, 6, none⟩ = some (.int .i64 a1_6) := (blk_cell BK314.out 6).trans rfl
              have hcz69_7 : wc.cell? ⟨gb314, 7, none⟩ = some (.int .i64 a1_7) := (blk_cell BK314.out 7).trans rfl
              have hfz69_0 := blk_frozen BK314.out 0
              have hfz69_1 := blk_frozen BK314.out 1
              have hfz69_2 := blk_frozen BK314.out 2
              have hfz69_3 := blk_frozen BK314.out 3
              have hfz69_4 := blk_frozen BK314.out 4
              have hfz69_5 := blk_frozen BK314.out 5
              have hfz69_6 := blk_frozen BK314.out 6
              have hfz69_7 := blk_frozen BK314.out 7
              go_wp2_with (first | ((with_reducible refine gate_callee (f := 63) rfl ?_); refine goesL_ (some 35) rfl rfl Tryd.func63 (by kernel_rfl) rfl #[.agg #[.int .i64 a1_0, .bool a1_1, .int .i64 a1_2, .int .i64 a1_3, .string a1_4, .int .i64 a1_5, .int .i64 a1_6, .int .i64 a1_7]] rfl (by (try simp only [List.map_toArray, List.map_cons, List.map_nil]); first | done | rfl | (simp only [List.length_drop, List.length_take]; rfl)) ?_; (with_reducible refine (arith_asReal.calls a1_0 a1_1 a1_2 a1_3 a1_4 a1_5 a1_6 a1_7 t329 t330 _ A41.out).mono ?_); rintro e w70 ⟨rfl, hb⟩; refine ⟨_, rfl, ?_⟩; have n0_ := Aside0.mk (blk_below (g := gb314) (o := .cells #[.int .i64 a1_0, .bool a1_1, .int .i64 a1_2, .int .i64 a1_3, .string a1_4, .int .i64 a1_5, .int .i64 a1_6, .int .i64 a1_7] 38 (0, 0)) (by (with_reducible repeat (first | refine blk_drewN ?_ _ | refine blk_drew ?_ | refine blk_alloc ?_ _)); exact BK314.out) hb); have n1_ := Aside0.mk (blk_below (g := gb315) (o := .cells #[.int .i64 a2_0, .bool a2_1, .int .i64 a2_2, .int .i64 a2_3, .string a2_4, .int .i64 a2_5, .int .i64 a2_6, .int .i64 a2_7] 38 (0, 0)) (by (with_reducible repeat (first | refine blk_drewN ?_ _ | refine blk_drew ?_ | refine blk_alloc ?_ _)); exact BK315.out) hb); have n2_ := Aside0.mk (blk_below (g := gb316) (o := .cells #[.int .i64 x317000_22, .bool x317001_22, .int .i64 x317002_22, .int .i64 x317003_22, .string x317004_22, .int .i64 x317005_22, .int .i64 x317006_22, .int .i64 x317007_22] 38 (0, 0)) (by (with_reducible repeat (first | refine blk_drewN ?_ _ | refine blk_drew ?_ | refine blk_alloc ?_ _)); exact BK316.out) hb); have n3_ := Aside0.mk (below_step (by repeat (first | (with_reducible first | exact HB.out | apply below_alloc | apply pw_below_drewN | apply below_drew1 | refine below_set ?_ GE314.out | refine below_set ?_ GE315.out | refine below_set ?_ GE316.out) | exact HB.out)) hb); clear BK314; clear BK315; clear BK316; clear HB; have BK314 := n0_; have BK315 := n1_; have BK316 := n2_; have HB := n3_; clear n0_ n1_ n2_ n3_; (try clear hb); (try clear hb2); (try clear hk); (try clear hi); have hnb71 := NB315_316.out; have hnc71 := NB316_315.out; obtain ⟨hcz72_0, hcz72_1, hcz72_2, hcz72_3, hcz72_4, hcz72_5, hcz72_6, hcz72_7⟩ := pc8 BK315.out; obtain ⟨hfz72_0, hfz72_1, hfz72_2, hfz72_3, hfz72_4, hfz72_5, hfz72_6, hfz72_7⟩ := pf8 BK315.out) | ((with_reducible refine gate_callee (f := 63) rfl ?_); refine goesL_ (some 44) rfl rfl Tryd.func63 (by kernel_rfl) rfl #[.agg #[.int .i64 a2_0, .bool a2_1, .int .i64 a2_2, .int .i64 a2_3, .string a2_4, .int .i64 a2_5, .int .i64 a2_6, .int .i64 a2_7]] rfl (by (try simp only [List.map_toArray, List.map_cons, List.map_nil]); first | done | rfl | (simp only [List.length_drop, List.length_take]; rfl)) ?_; (with_reducible refine (arith_asReal.calls a2_0 a2_1 a2_2 a2_3 a2_4 a2_5 a2_6 a2_7 t331 t332 _ A43.out).mono ?_); rintro e w73 ⟨rfl, hb⟩; refine ⟨_, rfl, ?_⟩; have n0_ := Aside0.mk (blk_below (g := gb314) (o := .cells #[.int .i64 a1_0, .bool a1_1, .int .i64 a1_2, .int .i64 a1_3, .string a1_4, .int .i64 a1_5, .int .i64 a1_6, .int .i64 a1_7] 38 (0, 0)) (by (with_reducible repeat (first | refine blk_drewN ?_ _ | refine blk_drew ?_ | refine blk_alloc ?_ _)); exact BK314.out) hb); have n1_ := Aside0.mk (blk_below (g := gb315) (o := .cells #[.int .i64 a2_0, .bool a2_1, .int .i64 a2_2, .int .i64 a2_3, .string a2_4, .int .i64 a2_5, .int .i64 a2_6, .int .i64 a2_7] 38 (0, 0)) (by (with_reducible repeat (first | refine blk_drewN ?_ _ | refine blk_drew ?_ | refine blk_alloc ?_ _)); exact BK315.out) hb); have n2_ := Aside0.mk (blk_below (g := gb316) (o := .cells #[.int .i64 x317000_22, .bool x317001_22, .int .i64 x317002_22, .int .i64 x317003_22, .string x317004_22, .int .i64 x317005_22, .int .i64 x317006_22, .int .i64 x317007_22] 38 (0, 0)) (by (with_reducible repeat (first | refine blk_drewN ?_ _ | refine blk_drew ?_ | refine blk_alloc ?_ _)); exact BK316.out) hb); have n3_ := Aside0.mk (below_step (by repeat (first | (with_reducible first | exact HB.out | apply below_alloc | apply pw_below_drewN | apply below_drew1 | refine below_set ?_ GE314.out | refine below_set ?_ GE315.out | refine below_set ?_ GE316.out) | exact HB.out)) hb); clear BK314; clear BK315; clear BK316; clear HB; have BK314 := n0_; have BK315 := n1_; have BK316 := n2_; have HB := n3_; clear n0_ n1_ n2_ n3_; (try clear hb); (try clear hb2); (try clear hk); (try clear hi); obtain ⟨hcz74_0, hcz74_1, hcz74_2, hcz74_3, hcz74_4, hcz74_5, hcz74_6, hcz74_7⟩ := pc8 BK316.out; obtain ⟨hfz74_0, hfz74_1, hfz74_2, hfz74_3, hfz74_4, hfz74_5, hfz74_6, hfz74_7⟩ := pf8 BK316.out))
              refine bodyPost_ret (results_ct rfl _ _ gb316 38 #[.int .i64 0, .bool false, .int .i64 0, .int .i64 0, .string (⟨#[]⟩ : ByteArray), .int .i64 0, .int .i64 0, .int .i64 0] (0, 0) _ rfl (by (with_reducible repeat (first | refine blk_drewN ?_ _ | refine blk_drew ?_ | refine blk_alloc ?_ _)); refine blk_put (cs := #[.int .i64 0, .bool false, .int .i64 0, .int .i64 0, .string (⟨#[]⟩ : ByteArray), .int .i64 0, .int .i64 0, .int .i64 x317007_22]) ?_ 7 _ rfl; (with_reducible repeat (first | refine blk_drewN ?_ _ | refine blk_drew ?_ | refine blk_alloc ?_ _)); refine blk_put (cs := #[.int .i64 0, .bool false, .int .i64 0, .int .i64 0, .string (⟨#[]⟩ : ByteArray), .int .i64 0, .int .i64 x317006_22, .int .i64 x317007_22]) ?_ 6 _ rfl; (with_reducible repeat (first | refine blk_drewN ?_ _ | refine blk_drew ?_ | refine blk_alloc ?_ _)); refine blk_put (cs := #[.int .i64 0, .bool false, .int .i64 0, .int .i64 0, .string (⟨#[]⟩ : ByteArray), .int .i64 x317005_22, .int .i64 x317006_22, .int .i64 x317007_22]) ?_ 5 _ rfl; (with_reducible repeat (first | refine blk_drewN ?_ _ | refine blk_drew ?_ | refine blk_alloc ?_ _)); refine blk_put (cs := #[.int .i64 0, .bool false, .int .i64 0, .int .i64 0, .string x317004_22, .int .i64 x317005_22, .int .i64 x317006_22, .int .i64 x317007_22]) ?_ 4 _ rfl; (with_reducible repeat (first | refine blk_drewN ?_ _ | refine blk_drew ?_ | refine blk_alloc ?_ _)); refine blk_put (cs := #[.int .i64 0, .bool false, .int .i64 0, .int .i64 x317003_22, .string x317004_22, .int .i64 x317005_22, .int .i64 x317006_22, .int .i64 x317007_22]) ?_ 3 _ rfl; (with_reducible repeat (first | refine blk_drewN ?_ _ | refine blk_drew ?_ | refine blk_alloc ?_ _)); refine blk_put (cs := #[.int .i64 0, .bool false, .int .i64 x317002_22, .int .i64 x317003_22, .string x317004_22, .int .i64 x317005_22, .int .i64 x317006_22, .int .i64 x317007_22]) ?_ 2 _ rfl; (with_reducible repeat (first | refine blk_drewN ?_ _ | refine blk_drew ?_ | refine blk_alloc ?_ _)); refine blk_put (cs := #[.int .i64 0, .bool x317001_22, .int .i64 x317002_22, .int .i64 x317003_22, .string x317004_22, .int .i64 x317005_22, .int .i64 x317006_22, .int .i64 x317007_22]) ?_ 1 _ rfl; (with_reducible repeat (first | refine blk_drewN ?_ _ | refine blk_drew ?_ | refine blk_alloc ?_ _)); refine blk_put (cs := #[.int .i64 x317000_22, .bool x317001_22, .int .i64 x317002_22, .int .i64 x317003_22, .string x317004_22, .int .i64 x317005_22, .int .i64 x317006_22, .int .i64 x317007_22]) ?_ 0 _ rfl; (with_reducible repeat (first | refine blk_drewN ?_ _ | refine blk_drew ?_ | refine blk_alloc ?_ _)); exact BK316.out) Tryd.underlying38 rfl (by kernel_rfl)) rfl ?_
              exact ⟨by first | rfl | (simp [errW_none, errW_some] <;> rfl) | (simp [*, errW_none, errW_some] <;> rfl), by repeat (first | (with_reducible first | exact HB.out | apply below_alloc | apply pw_below_drewN | apply below_drew1 | refine below_set ?_ GE314.out | refine below_set ?_ GE315.out | refine below_set ?_ GE316.out) | exact HB.out)⟩
          · rw [if_neg c42] at H
            have c42b0 : (t330 == 0) = false := beq_eq_false_iff_ne.mpr c42
            have c42b1 : (t330 != 0) = true := bne_iff_ne.mpr c42
            simp only [Option.some.injEq, Prod.mk.injEq] at H
            obtain ⟨rfl, rfl, rfl, rfl, rfl, rfl, rfl, rfl, rfl⟩ := H
            have hnb75 := NB314_315.out
            have hnc75 := NB315_314.out
            have hnb76 := NB314_316.out
            have hnc76 := NB316_314.out
            have hcz77_0 : wc.cell? ⟨gb314, 0, none⟩ = some (.int .i64 a1_0) := (blk_cell BK314.out 0).trans rfl
            have hcz77_1 : wc.cell? ⟨gb314, 1, none⟩ = some (.bool a1_1) := (blk_cell BK314.out 1).trans rfl
            have hcz77_2 : wc.cell? ⟨gb314, 2, none⟩ = some (.int .i64 a1_2) := (blk_cell BK314.out 2).trans rfl
            have hcz77_3 : wc.cell? ⟨gb314, 3, none⟩ = some (.int .i64 a1_3) := (blk_cell BK314.out 3).trans rfl
            have hcz77_4 : wc.cell? ⟨gb314, 4, none⟩ = some (.string a1_4) := (blk_cell BK314.out 4).trans rfl
            have hcz77_5 : wc.cell? ⟨gb314, 5, none⟩ = some (.int .i64 a1_5) := (blk_cell BK314.out 5).trans rfl
            have hcz77_6 : wc.cell? ⟨gb314, 6, none⟩ = some (.int .i64 a1_6) := (blk_cell BK314.out 6).trans rfl
            have hcz77_7 : wc.cell? ⟨gb314, 7, none⟩ = some (.int .i64 a1_7) := (blk_cell BK314.out 7).trans rfl
            have hfz77_0 := blk_frozen BK314.out 0
            have hfz77_1 := blk_frozen BK314.out 1
            have hfz77_2 := blk_frozen BK314.out 2
            have hfz77_3 := blk_frozen BK314.out 3
            have hfz77_4 := blk_frozen BK314.out 4
            have hfz77_5 := blk_frozen BK314.out 5
            have hfz77_6 := blk_frozen BK314.out 6
            have hfz77_7 := blk_frozen BK314.out 7
            go_wp2_with (first | ((with_reducible refine gate_callee (f := 63) rfl ?_); refine goesL_ (some 35) rfl rfl Tryd.func63 (by kernel_rfl) rfl #[.agg #[.int .i64 a1_0, .bool a1_1, .int .i64 a1_2, .int .i64 a1_3, .string a1_4, .int .i64 a1_5, .int .i64 a1_6, .int .i64 a1_7]] rfl (by (try simp only [List.map_toArray, List.map_cons, List.map_nil]); first | done | rfl | (simp only [List.length_drop, List.length_take]; rfl)) ?_; (with_reducible refine (arith_asReal.calls a1_0 a1_1 a1_2 a1_3 a1_4 a1_5 a1_6 a1_7 t329 t330 _ A41.out).mono ?_); rintro e w78 ⟨rfl, hb⟩; refine ⟨_, rfl, ?_⟩; have n0_ := Aside0.mk (blk_below (g := gb314) (o := .cells #[.int .i64 a1_0, .bool a1_1, .int .i64 a1_2, .int .i64 a1_3, .string a1_4, .int .i64 a1_5, .int .i64 a1_6, .int .i64 a1_7] 38 (0, 0)) (by (with_reducible repeat (first | refine blk_drewN ?_ _ | refine blk_drew ?_ | refine blk_alloc ?_ _)); exact BK314.out) hb); have n1_ := Aside0.mk (blk_below (g := gb315) (o := .cells #[.int .i64 a2_0, .bool a2_1, .int .i64 a2_2, .int .i64 a2_3, .string a2_4, .int .i64 a2_5, .int .i64 a2_6, .int .i64 a2_7] 38 (0, 0)) (by (with_reducible repeat (first | refine blk_drewN ?_ _ | refine blk_drew ?_ | refine blk_alloc ?_ _)); exact BK315.out) hb); have n2_ := Aside0.mk (blk_below (g := gb316) (o := .cells #[.int .i64 x317000_22, .bool x317001_22, .int .i64 x317002_22, .int .i64 x317003_22, .string x317004_22, .int .i64 x317005_22, .int .i64 x317006_22, .int .i64 x317007_22] 38 (0, 0)) (by (with_reducible repeat (first | refine blk_drewN ?_ _ | refine blk_drew ?_ | refine blk_alloc ?_ _)); exact BK316.out) hb); have n3_ := Aside0.mk (below_step (by repeat (first | (with_reducible first | exact HB.out | apply below_alloc | apply pw_below_drewN | apply below_drew1 | refine below_set ?_ GE314.out | refine below_set ?_ GE315.out | refine below_set ?_ GE316.out) | exact HB.out)) hb); clear BK314; clear BK315; clear BK316; clear HB; have BK314 := n0_; have BK315 := n1_; have BK316 := n2_; have HB := n3_; clear n0_ n1_ n2_ n3_; (try clear hb); (try clear hb2); (try clear hk); (try clear hi); have hnb79 := NB316_315.out; have hnc79 := NB315_316.out; obtain ⟨hcz80_0, hcz80_1, hcz80_2, hcz80_3, hcz80_4, hcz80_5, hcz80_6, hcz80_7⟩ := pc8 BK316.out; obtain ⟨hfz80_0, hfz80_1, hfz80_2, hfz80_3, hfz80_4, hfz80_5, hfz80_6, hfz80_7⟩ := pf8 BK316.out))
            refine bodyPost_ret (results_ct rfl _ _ gb316 38 #[.int .i64 0, .bool false, .int .i64 0, .int .i64 0, .string (⟨#[]⟩ : ByteArray), .int .i64 0, .int .i64 0, .int .i64 0] (0, 0) _ rfl (by (with_reducible repeat (first | refine blk_drewN ?_ _ | refine blk_drew ?_ | refine blk_alloc ?_ _)); refine blk_put (cs := #[.int .i64 0, .bool false, .int .i64 0, .int .i64 0, .string (⟨#[]⟩ : ByteArray), .int .i64 0, .int .i64 0, .int .i64 x317007_22]) ?_ 7 _ rfl; (with_reducible repeat (first | refine blk_drewN ?_ _ | refine blk_drew ?_ | refine blk_alloc ?_ _)); refine blk_put (cs := #[.int .i64 0, .bool false, .int .i64 0, .int .i64 0, .string (⟨#[]⟩ : ByteArray), .int .i64 0, .int .i64 x317006_22, .int .i64 x317007_22]) ?_ 6 _ rfl; (with_reducible repeat (first | refine blk_drewN ?_ _ | refine blk_drew ?_ | refine blk_alloc ?_ _)); refine blk_put (cs := #[.int .i64 0, .bool false, .int .i64 0, .int .i64 0, .string (⟨#[]⟩ : ByteArray), .int .i64 x317005_22, .int .i64 x317006_22, .int .i64 x317007_22]) ?_ 5 _ rfl; (with_reducible repeat (first | refine blk_drewN ?_ _ | refine blk_drew ?_ | refine blk_alloc ?_ _)); refine blk_put (cs := #[.int .i64 0, .bool false, .int .i64 0, .int .i64 0, .string x317004_22, .int .i64 x317005_22, .int .i64 x317006_22, .int .i64 x317007_22]) ?_ 4 _ rfl; (with_reducible repeat (first | refine blk_drewN ?_ _ | refine blk_drew ?_ | refine blk_alloc ?_ _)); refine blk_put (cs := #[.int .i64 0, .bool false, .int .i64 0, .int .i64 x317003_22, .string x317004_22, .int .i64 x317005_22, .int .i64 x317006_22, .int .i64 x317007_22]) ?_ 3 _ rfl; (with_reducible repeat (first | refine blk_drewN ?_ _ | refine blk_drew ?_ | refine blk_alloc ?_ _)); refine blk_put (cs := #[.int .i64 0, .bool false, .int .i64 x317002_22, .int .i64 x317003_22, .string x317004_22, .int .i64 x317005_22, .int .i64 x317006_22, .int .i64 x317007_22]) ?_ 2 _ rfl; (with_reducible repeat (first | refine blk_drewN ?_ _ | refine blk_drew ?_ | refine blk_alloc ?_ _)); refine blk_put (cs := #[.int .i64 0, .bool x317001_22, .int .i64 x317002_22, .int .i64 x317003_22, .string x317004_22, .int .i64 x317005_22, .int .i64 x317006_22, .int .i64 x317007_22]) ?_ 1 _ rfl; (with_reducible repeat (first | refine blk_drewN ?_ _ | refine blk_drew ?_ | refine blk_alloc ?_ _)); refine blk_put (cs := #[.int .i64 x317000_22, .bool x317001_22, .int .i64 x317002_22, .int .i64 x317003_22, .string x317004_22, .int .i64 x317005_22, .int .i64 x317006_22, .int .i64 x317007_22]) ?_ 0 _ rfl; (with_reducible repeat (first | refine blk_drewN ?_ _ | refine blk_drew ?_ | refine blk_alloc ?_ _)); exact BK316.out) Tryd.underlying38 rfl (by kernel_rfl)) rfl ?_
            exact ⟨by first | rfl | (simp [errW_none, errW_some] <;> rfl) | (simp [*, errW_none, errW_some] <;> rfl), by repeat (first | (with_reducible first | exact HB.out | apply below_alloc | apply pw_below_drewN | apply below_drew1 | refine below_set ?_ GE314.out | refine below_set ?_ GE315.out | refine below_set ?_ GE316.out) | exact HB.out)⟩
end Go.Proofs.YtmbnlklinmmkdaaDoor.PArithDoes
