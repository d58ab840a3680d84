-- Walks that print.sh wrote for ArithDoes, mended; what the claim does not use is struck out.
import Derived.Test.YtmbnlklinmmkdaaDoorQ0
import Derived.Test.YtmbnlklinmmkdaaDoorQ1
namespace Go.Proofs.YtmbnlklinmmkdaaDoor.PArithDoes
open Go.RowKit Go.Proofs.YtmbnlklinmmkdaaDoorW.PrintWords Go.Proofs.YtmbnlklinmmkdaaDoorW.PrintLast Go.Proofs.YtmbnlklinmmkdaaDoorW.PrintMore
attribute [local go_sem] max2_int min2_int max_two min_two max_three min_three max_four min_four   -- for this text's walks alone
set_option linter.unusedVariables false
set_option linter.unusedSimpArgs false
def fix_within.f (a0 : Int) : Option (Int × Int) := (fix_Fits.f a0).bind fun t115 => (if t115 = true then (some (a0, 0)) else (some (0, 18)))
set_option maxHeartbeats 8000000 in
set_option maxRecDepth 100000 in
theorem fix_within.calls (a0 : Int) (r1 : Int) (r2 : Int) (w : World) (h : fix_within.f a0 = some (r1, r2)) :
    Calls Tryd.prog 80 #[.int .i64 a0] w fun e w' => e = .returned (.tuple #[.int .i64 r1, .int .i64 r2]) ∧ Drawn0 w w' := by
  have H : ((fix_Fits.f a0).bind fun t115 => (if t115 = true then (some (a0, 0)) else (some (0, 18)))) = some (r1, r2) := h
  clear h
  replace H := Option.bind_eq_some_iff.mp H
  obtain ⟨t115, A20, H⟩ := H
  replace H : (if t115 = true then (some (a0, 0)) else (some (0, 18))) = some (r1, r2) := H
  have A2 := Aside0.mk A20
  clear A20
  by_cases c3 : t115 = true
  · subst c3
    have H1 : (some (a0, 0)) = some (r1, r2) := by rw [if_pos rfl] at H; exact H
    clear H
    have H := H1
    clear H1
    simp only [Option.some.injEq, Prod.mk.injEq] at H
    obtain ⟨rfl, rfl⟩ := H
    go_enter Tryd.func80, Tryd.ntmps80
    go_wp2_with (first | ((with_reducible refine gate_callee (f := 62) rfl ?_); refine goesL_ (some 5) rfl rfl Tryd.func62 (by kernel_rfl) rfl #[.int .i64 a0] rfl (by (try simp only [List.map_toArray, List.map_cons, List.map_nil]); first | done | rfl | (simp only [List.length_drop, List.length_take]; rfl)) ?_; (with_reducible refine (fix_Fits.calls a0 true _ A2.out).mono ?_); rintro e w' ⟨rfl, ⟨nd, rfl⟩⟩; refine ⟨_, rfl, ?_⟩))
    go_ret2
    exact ⟨by first | rfl | (simp; done) | (simp [*]; done), by repeat (first | exact Drawn0.refl _ | apply Drawn0.step)⟩
  · replace c3 := Bool.eq_false_iff.mpr c3
    subst c3
    have H1 : (some (0, 18)) = some (r1, r2) := by rw [if_neg (show ¬ (false = true) by decide)] at H; exact H
    clear H
    have H := H1
    clear H1
    simp only [Option.some.injEq, Prod.mk.injEq] at H
    obtain ⟨rfl, rfl⟩ := H
    go_enter Tryd.func80, Tryd.ntmps80
    go_wp2_with (first | ((with_reducible refine gate_callee (f := 62) rfl ?_); refine goesL_ (some 5) rfl rfl Tryd.func62 (by kernel_rfl) rfl #[.int .i64 a0] rfl (by (try simp only [List.map_toArray, List.map_cons, List.map_nil]); first | done | rfl | (simp only [List.length_drop, List.length_take]; rfl)) ?_; (with_reducible refine (fix_Fits.calls a0 false _ A2.out).mono ?_); rintro e w' ⟨rfl, ⟨nd, rfl⟩⟩; refine ⟨_, rfl, ?_⟩))
    go_ret2
    exact ⟨by first | rfl | (simp; done) | (simp [*]; done), by repeat (first | exact Drawn0.refl _ | apply Drawn0.step)⟩
def fix_Sub.f (k : Nat) (a0 : Int) (a1 : Int) : Option (Int × Int) := (fix_all.f k (([a0, a1] : List Int))).bind fun t119 => (if t119 = true then ((fix_within.f (wrap64 (a0 - a1))).bind fun bt120 => (some (bt120.1, bt120.2))) else (some (0, 11)))
theorem fix_Sub.mono : ∀ a0 a1 k, LeO (fix_Sub.f k a0 a1) (fix_Sub.f (k + 1) a0 a1) := by
  intro a0 a1 k
  unfold fix_Sub.f
  repeat' first
      | (with_reducible exact fix_all.mono _ _)
      | (with_reducible exact LeO.refl _)
      | (with_reducible exact LeO.none _)
      | (with_reducible refine LeO.ite ?_ ?_)
      | (with_reducible refine LeO.bind ?_ (fun _ => ?_))
      | exact fix_all.mono _ _
      | exact LeO.none _
      | refine LeO.ite ?_ ?_
      | refine LeO.bind ?_ (fun _ => ?_)
set_option maxHeartbeats 8000000 in
set_option maxRecDepth 100000 in
theorem fix_Sub.calls (k : Nat) (a0 : Int) (a1 : Int) (r1 : Int) (r2 : Int) (w : World) (h : fix_Sub.f k a0 a1 = some (r1, r2)) :
    Calls Tryd.prog 64 #[.int .i64 a0, .int .i64 a1] w fun e w' => e = .returned (.tuple #[.int .i64 r1, .int .i64 r2]) ∧ Below w.heap.size w w' := by
  have HB := Aside0.mk (Below.refl w.heap.size w)
  have H : ((fix_all.f k (([a0, a1] : List Int))).bind fun t119 => (if t119 = true then ((fix_within.f (wrap64 (a0 - a1))).bind fun bt120 => (some (bt120.1, bt120.2))) else (some (0, 11)))) = some (r1, r2) := h
  clear h
  obtain ⟨y116, hy116⟩ : ∃ y_ : List Int, y_ = (([a0, a1] : List Int)) := ⟨_, rfl⟩
  replace H : ((fix_all.f k y116).bind fun t119 => (if t119 = true then ((fix_within.f (wrap64 (a0 - a1))).bind fun bt120 => (some (bt120.1, bt120.2))) else (some (0, 11)))) = some (r1, r2) := by first | (rw [hy116]; with_reducible exact H) | (have H2_ := (Option.bind_some _ _).symm.trans H; rw [hy116]; with_reducible exact H2_) | (have H2_ := (Option.bind_some _ _).symm.trans H; with_reducible exact H2_) | with_reducible exact H | (rw [hy116]; exact H) | exact H
  have Ny116 := Aside0.mk hy116
  clear hy116
  replace H := Option.bind_eq_some_iff.mp H
  obtain ⟨t119, A30, H⟩ := H
  replace H : (if t119 = true then ((fix_within.f (wrap64 (a0 - a1))).bind fun bt120 => (some (bt120.1, bt120.2))) else (some (0, 11))) = some (r1, r2) := H
  have A3 := Aside0.mk A30
  clear A30
  by_cases c4 : t119 = true
  · subst c4
    have H1 : ((fix_within.f (wrap64 (a0 - a1))).bind fun bt120 => (some (bt120.1, bt120.2))) = some (r1, r2) := by rw [if_pos rfl] at H; exact H
    clear H
    have H := H1
    clear H1
    replace H := Option.bind_eq_some_iff.mp H
    obtain ⟨⟨t120, t121⟩, A50, H⟩ := H
    replace H : (some (t120, t121)) = some (r1, r2) := H
    have A5 := Aside0.mk A50
    clear A50
    simp only [Option.some.injEq, Prod.mk.injEq] at H
    obtain ⟨rfl, rfl⟩ := H
    go_enter Tryd.func64, Tryd.ntmps64
    go_wp2_with (first | ((with_reducible refine gate_dst (N := 8) rfl ?_); refine Kd.R_lit (Kd.int .i64) _ 3 ?hg (N := 8) ?hd (xs := ([a0, a1] : List Int)) (inner := [.int .i64 a0, .int .i64 a1]) (ok := fun _ => True) (okp := fun _ => True) ?hr ?hp (fun _ hk => hk) trivial (Below.refl _ _) (Nat.le_refl _) (by simp) ?_; (case hd => rfl); (case hg => rfl); (case hr => first | (go_simp; done) | (go_simp; rfl)); (case hp => exact (Reps.one (show Kd.M (Kd.int .i64) _ _ _ a0 [.int .i64 a0] from rfl) (Reps.one (show Kd.M (Kd.int .i64) _ _ _ a1 [.int .i64 a1] from rfl) (Reps.none _ _)))); intro v117 w6 ho7 hb hg_ hnew_; clear hg_ hnew_; (first | rw [← Ny116.out] at ho7 | (simp only [Int.reduceToNat] at ho7; rw [← Ny116.out] at ho7)); have n0_ := Aside0.mk (Kd.R_lower ho7 (below_size (by repeat (first | (with_reducible first | exact HB.out | apply below_alloc | apply pw_below_drewN | apply below_drew1) | exact HB.out)))); have n1_ := Aside0.mk (below_step (by repeat (first | (with_reducible first | exact HB.out | apply below_alloc | apply pw_below_drewN | apply below_drew1) | exact HB.out)) hb); clear HB; have HO118 := n0_; have HB := n1_; clear n0_ n1_; clear hb ho7; obtain ⟨Ao8, co8, eo8⟩ := Kd.R_slice HO118.out; subst eo8) | ((with_reducible refine gate_callee (f := 79) rfl ?_); refine goesL_ (some 9) rfl rfl Tryd.func79 (by kernel_rfl) rfl #[.slice Ao8 y116.length co8] rfl (by (try simp only [List.map_toArray, List.map_cons, List.map_nil]); first | done | rfl | (simp only [List.length_drop, List.length_take]; rfl)) ?_; (with_reducible refine (fix_all.calls k _ _ y116 true _ ?side1 ?side2 A3.out).mono ?_); (case side1 => repeat (first | exact (Kd.R_reads' HO118.out).2.2 | (with_reducible refine Kd.C_alloc ?_ _) | (with_reducible refine Kd.C_drewN ?_ _) | (with_reducible refine Kd.C_drew ?_))); (case side2 => exact (Kd.R_reads' HO118.out).2.1); rintro e w' ⟨rfl, ⟨nd, rfl⟩⟩; refine ⟨_, rfl, ?_⟩) | ((with_reducible refine gate_callee (f := 80) rfl ?_); refine goesL_ (some 14) rfl rfl Tryd.func80 (by kernel_rfl) rfl #[.int .i64 (wrap64 (a0 - a1))] rfl (by (try simp only [List.map_toArray, List.map_cons, List.map_nil]); first | done | rfl | (simp only [List.length_drop, List.length_take]; rfl)) ?_; (with_reducible refine (fix_within.calls (wrap64 (a0 - a1)) t120 t121 _ A5.out).mono ?_); rintro e w' ⟨rfl, ⟨nd, rfl⟩⟩; refine ⟨_, rfl, ?_⟩))
    go_ret2
    exact ⟨by first | rfl | (simp [errW_none, errW_some] <;> rfl) | (simp [*, errW_none, errW_some] <;> rfl), by repeat (first | (with_reducible first | exact HB.out | apply below_alloc | apply pw_below_drewN | apply below_drew1) | exact HB.out)⟩
  · replace c4 := Bool.eq_false_iff.mpr c4
    subst c4
    have H1 : (some (0, 11)) = some (r1, r2) := by rw [if_neg (show ¬ (false = true) by decide)] at H; exact H
    clear H
    have H := H1
    clear H1
    simp only [Option.some.injEq, Prod.mk.injEq] at H
    obtain ⟨rfl, rfl⟩ := H
    go_enter Tryd.func64, Tryd.ntmps64
    go_wp2_with (first | ((with_reducible refine gate_dst (N := 8) rfl ?_); refine Kd.R_lit (Kd.int .i64) _ 3 ?hg (N := 8) ?hd (xs := ([a0, a1] : List Int)) (inner := [.int .i64 a0, .int .i64 a1]) (ok := fun _ => True) (okp := fun _ => True) ?hr ?hp (fun _ hk => hk) trivial (Below.refl _ _) (Nat.le_refl _) (by simp) ?_; (case hd => rfl); (case hg => rfl); (case hr => first | (go_simp; done) | (go_simp; rfl)); (case hp => exact (Reps.one (show Kd.M (Kd.int .i64) _ _ _ a0 [.int .i64 a0] from rfl) (Reps.one (show Kd.M (Kd.int .i64) _ _ _ a1 [.int .i64 a1] from rfl) (Reps.none _ _)))); intro v117 w9 ho10 hb hg_ hnew_; clear hg_ hnew_; (first | rw [← Ny116.out] at ho10 | (simp only [Int.reduceToNat] at ho10; rw [← Ny116.out] at ho10)); have n0_ := Aside0.mk (Kd.R_lower ho10 (below_size (by repeat (first | (with_reducible first | exact HB.out | apply below_alloc | apply pw_below_drewN | apply below_drew1) | exact HB.out)))); have n1_ := Aside0.mk (below_step (by repeat (first | (with_reducible first | exact HB.out | apply below_alloc | apply pw_below_drewN | apply below_drew1) | exact HB.out)) hb); clear HB; have HO118 := n0_; have HB := n1_; clear n0_ n1_; clear hb ho10; obtain ⟨Ao11, co11, eo11⟩ := Kd.R_slice HO118.out; subst eo11) | ((with_reducible refine gate_callee (f := 79) rfl ?_); refine goesL_ (some 9) rfl rfl Tryd.func79 (by kernel_rfl) rfl #[.slice Ao11 y116.length co11] rfl (by (try simp only [List.map_toArray, List.map_cons, List.map_nil]); first | done | rfl | (simp only [List.length_drop, List.length_take]; rfl)) ?_; (with_reducible refine (fix_all.calls k _ _ y116 false _ ?side1 ?side2 A3.out).mono ?_); (case side1 => repeat (first | exact (Kd.R_reads' HO118.out).2.2 | (with_reducible refine Kd.C_alloc ?_ _) | (with_reducible refine Kd.C_drewN ?_ _) | (with_reducible refine Kd.C_drew ?_))); (case side2 => exact (Kd.R_reads' HO118.out).2.1); rintro e w' ⟨rfl, ⟨nd, rfl⟩⟩; refine ⟨_, rfl, ?_⟩))
    go_ret2
    exact ⟨by first | rfl | (simp [errW_none, errW_some] <;> rfl) | (simp [*, errW_none, errW_some] <;> rfl), by repeat (first | (with_reducible first | exact HB.out | apply below_alloc | apply pw_below_drewN | apply below_drew1) | exact HB.out)⟩
def arith_real.f (a0 : Int) : Option (Int × Bool × Int × Int × ByteArray × Int × Int × Int) := some (2, false, 0, a0, (⟨#[]⟩ : ByteArray), 0, 0, 0)
set_option maxHeartbeats 8000000 in
set_option maxRecDepth 100000 in
theorem arith_real.calls (a0 : Int) (r1 : Int) (r2 : Bool) (r3 : Int) (r4 : Int) (r5 : ByteArray) (r6 : Int) (r7 : Int) (r8 : Int) (w : World) (h : arith_real.f a0 = some (r1, r2, r3, r4, r5, r6, r7, r8)) :
    Calls Tryd.prog 65 #[.int .i64 a0] w fun e w' => e = .returned (.agg #[.int .i64 r1, .bool r2, .int .i64 r3, .int .i64 r4, .string r5, .int .i64 r6, .int .i64 r7, .int .i64 r8]) ∧ Below w.heap.size w w' := by
  have hu38 := Tryd.underlying38
  have HB := Aside0.mk (Below.refl w.heap.size w)
  have H : (some (2, false, 0, a0, (⟨#[]⟩ : ByteArray), 0, 0, 0)) = some (r1, r2, r3, r4, r5, r6, r7, r8) := h
  clear h
  simp only [Option.some.injEq, Prod.mk.injEq] at H
  obtain ⟨rfl, rfl, rfl, rfl, rfl, rfl, rfl, rfl⟩ := H
  go_enter Tryd.func65, Tryd.ntmps65
  go_wp2_with (first | ((with_reducible refine gate_dst (N := 2) rfl ?_); refine box_event ?hg (N := 2) ?hd (cs := #[.int .i64 0, .bool false, .int .i64 0, .int .i64 0, .string (⟨#[]⟩ : ByteArray), .int .i64 0, .int .i64 0, .int .i64 0]) (t := 38) ?hr ?_; (case hd => rfl); (case hg => rfl); (case hr => first | (go_simp; done) | (go_simp; rfl)); intro gb122 hg w2 hbox hb; have n0_ := Aside0.mk (below_step (by repeat (first | (with_reducible first | exact HB.out | apply below_alloc | apply pw_below_drewN | apply below_drew1) | exact HB.out)) hb); have n1_ := Aside0.mk (hbox); have n2_ := Aside0.mk ((by rw [hg]; exact (below_size (by repeat (first | (with_reducible first | exact HB.out | apply below_alloc | apply pw_below_drewN | apply below_drew1) | exact HB.out))) : w.heap.size ≤ gb122)); have n3_ := Aside0.mk ((by rw [hg]; exact (below_size (by repeat (first | (with_reducible first | exact HB.out | apply below_alloc | apply pw_below_drewN | apply below_drew1) | exact HB.out))) : w.heap.size ≤ gb122)); clear HB; have HB := n0_; have BK122 := n1_; have GW122 := n2_; have GE122 := n3_; clear n0_ n1_ n2_ n3_; clear hb hbox hg; obtain ⟨hcz3_0, hcz3_1, hcz3_2, hcz3_3, hcz3_4, hcz3_5, hcz3_6, hcz3_7⟩ := pc8 BK122.out; obtain ⟨hfz3_0, hfz3_1, hfz3_2, hfz3_3, hfz3_4, hfz3_5, hfz3_6, hfz3_7⟩ := pf8 BK122.out))
  refine bodyPost_ret (results_cell_row rfl _ _ gb122 38 #[.int .i64 2, .bool false, .int .i64 0, .int .i64 a0, .string (⟨#[]⟩ : ByteArray), .int .i64 0, .int .i64 0, .int .i64 0] (0, 0) _ rfl (by (with_reducible repeat (first | refine blk_drewN ?_ _ | refine blk_drew ?_ | refine blk_alloc ?_ _)); refine blk_put (cs := #[.int .i64 2, .bool false, .int .i64 0, .int .i64 a0, .string (⟨#[]⟩ : ByteArray), .int .i64 0, .int .i64 0, .int .i64 0]) ?_ 7 _ rfl; (with_reducible repeat (first | refine blk_drewN ?_ _ | refine blk_drew ?_ | refine blk_alloc ?_ _)); refine blk_put (cs := #[.int .i64 2, .bool false, .int .i64 0, .int .i64 a0, .string (⟨#[]⟩ : ByteArray), .int .i64 0, .int .i64 0, .int .i64 0]) ?_ 6 _ rfl; (with_reducible repeat (first | refine blk_drewN ?_ _ | refine blk_drew ?_ | refine blk_alloc ?_ _)); refine blk_put (cs := #[.int .i64 2, .bool false, .int .i64 0, .int .i64 a0, .string (⟨#[]⟩ : ByteArray), .int .i64 0, .int .i64 0, .int .i64 0]) ?_ 5 _ rfl; (with_reducible repeat (first | refine blk_drewN ?_ _ | refine blk_drew ?_ | refine blk_alloc ?_ _)); refine blk_put (cs := #[.int .i64 2, .bool false, .int .i64 0, .int .i64 a0, .string (⟨#[]⟩ : ByteArray), .int .i64 0, .int .i64 0, .int .i64 0]) ?_ 4 _ rfl; (with_reducible repeat (first | refine blk_drewN ?_ _ | refine blk_drew ?_ | refine blk_alloc ?_ _)); refine blk_put (cs := #[.int .i64 2, .bool false, .int .i64 0, .int .i64 0, .string (⟨#[]⟩ : ByteArray), .int .i64 0, .int .i64 0, .int .i64 0]) ?_ 3 _ rfl; (with_reducible repeat (first | refine blk_drewN ?_ _ | refine blk_drew ?_ | refine blk_alloc ?_ _)); refine blk_put (cs := #[.int .i64 2, .bool false, .int .i64 0, .int .i64 0, .string (⟨#[]⟩ : ByteArray), .int .i64 0, .int .i64 0, .int .i64 0]) ?_ 2 _ rfl; (with_reducible repeat (first | refine blk_drewN ?_ _ | refine blk_drew ?_ | refine blk_alloc ?_ _)); refine blk_put (cs := #[.int .i64 2, .bool false, .int .i64 0, .int .i64 0, .string (⟨#[]⟩ : ByteArray), .int .i64 0, .int .i64 0, .int .i64 0]) ?_ 1 _ rfl; (with_reducible repeat (first | refine blk_drewN ?_ _ | refine blk_drew ?_ | refine blk_alloc ?_ _)); refine blk_put (cs := #[.int .i64 0, .bool false, .int .i64 0, .int .i64 0, .string (⟨#[]⟩ : ByteArray), .int .i64 0, .int .i64 0, .int .i64 0]) ?_ 0 _ rfl; (with_reducible repeat (first | refine blk_drewN ?_ _ | refine blk_drew ?_ | refine blk_alloc ?_ _)); exact BK122.out) Tryd.underlying38 rfl (by kernel_rfl)) rfl ?_
  exact ⟨by first | rfl | (simp [errW_none, errW_some] <;> rfl) | (simp [*, errW_none, errW_some] <;> rfl), by repeat (first | (with_reducible first | exact HB.out | apply below_alloc | apply pw_below_drewN | apply below_drew1 | refine below_set ?_ GE122.out) | exact HB.out)⟩
mutual
def arith_signs.j0 : Nat → Bool → Int → Bool → Int → Int → ByteArray → Int → Int → Int → Option (Int × Bool × Int × Int × ByteArray × Int × Int × Int × Int)
  | 0, _, _, _, _, _, _, _, _, _ => none
  | k + 1, x14, x124000, x124001, x124002, x124003, x124004, x124005, x124006, x124007 => if x14 = true then (some (x124000, false, 0, x124003, (⟨#[]⟩ : ByteArray), 0, 0, 0, 0)) else (if x124000 = 1 then ((arith_small.f (wrap64 (-x124003))).bind fun t125 => (arith_signs.j1 k t125 x124000 x124001 x124002 x124003 x124004 x124005 x124006 x124007)) else (arith_signs.j1 k false x124000 x124001 x124002 x124003 x124004 x124005 x124006 x124007))
def arith_signs.j1 : Nat → Bool → Int → Bool → Int → Int → ByteArray → Int → Int → Int → Option (Int × Bool × Int × Int × ByteArray × Int × Int × Int × Int)
  | 0, _, _, _, _, _, _, _, _, _ => none
  | k + 1, x28, x124000, x124001, x124002, x124003, x124004, x124005, x124006, x124007 => if x28 = true then ((arith_whole.f (wrap64 (-x124003))).bind fun bt126 => (some (bt126.1, bt126.2.1, bt126.2.2.1, bt126.2.2.2.1, bt126.2.2.2.2.1, bt126.2.2.2.2.2.1, bt126.2.2.2.2.2.2.1, bt126.2.2.2.2.2.2.2, 0))) else ((arith_asReal.f x124000 x124001 x124002 x124003 x124004 x124005 x124006 x124007).bind fun bt134 => (if bt134.2 = 0 then ((fix_Sub.f k 0 bt134.1).bind fun bt136 => (if bt136.2 = 0 then ((arith_real.f bt136.1).bind fun bt138 => (some (bt138.1, bt138.2.1, bt138.2.2.1, bt138.2.2.2.1, bt138.2.2.2.2.1, bt138.2.2.2.2.2.1, bt138.2.2.2.2.2.2.1, bt138.2.2.2.2.2.2.2, 0))) else (some (0, false, 0, 0, (⟨#[]⟩ : ByteArray), 0, 0, 0, bt136.2)))) else (some (0, false, 0, 0, (⟨#[]⟩ : ByteArray), 0, 0, 0, bt134.2))))
end
def arith_signs.f (k : Nat) (a0 : ByteArray) (a1_0 : Int) (a1_1 : Bool) (a1_2 : Int) (a1_3 : Int) (a1_4 : ByteArray) (a1_5 : Int) (a1_6 : Int) (a1_7 : Int) : Option (Int × Bool × Int × Int × ByteArray × Int × Int × Int × Int) := if a0.toList = ([97, 98, 115] : List UInt8) then (arith_signs.j0 k (decide (a1_3 ≥ 0)) a1_0 a1_1 a1_2 a1_3 a1_4 a1_5 a1_6 a1_7) else (arith_signs.j0 k false a1_0 a1_1 a1_2 a1_3 a1_4 a1_5 a1_6 a1_7)
theorem arith_signs.mono_l : ∀ k, (∀ y0 y1 y2 y3 y4 y5 y6 y7 y8, LeO (arith_signs.j0 k y0 y1 y2 y3 y4 y5 y6 y7 y8) (arith_signs.j0 (k + 1) y0 y1 y2 y3 y4 y5 y6 y7 y8)) ∧ (∀ y0 y1 y2 y3 y4 y5 y6 y7 y8, LeO (arith_signs.j1 k y0 y1 y2 y3 y4 y5 y6 y7 y8) (arith_signs.j1 (k + 1) y0 y1 y2 y3 y4 y5 y6 y7 y8))
  | 0 => ⟨fun _ _ _ _ _ _ _ _ _ r h => by simp [arith_signs.j0] at h, fun _ _ _ _ _ _ _ _ _ r h => by simp [arith_signs.j1] at h⟩
  | k + 1 => by
    obtain ⟨ih0, ih1⟩ := arith_signs.mono_l k
    refine ⟨?_, ?_⟩
    · intro y0 y1 y2 y3 y4 y5 y6 y7 y8
      unfold arith_signs.j0
      repeat' first
      | (with_reducible exact ih0 _ _ _ _ _ _ _ _ _)
      | (with_reducible exact ih1 _ _ _ _ _ _ _ _ _)
      | (with_reducible exact fix_Sub.mono _ _ _)
      | (with_reducible exact LeO.refl _)
      | (with_reducible exact LeO.none _)
      | (with_reducible refine LeO.ite ?_ ?_)
      | (with_reducible refine LeO.bind ?_ (fun _ => ?_))
      | exact ih0 _ _ _ _ _ _ _ _ _
      | exact ih1 _ _ _ _ _ _ _ _ _
      | exact fix_Sub.mono _ _ _
      | exact LeO.none _
      | refine LeO.ite ?_ ?_
      | refine LeO.bind ?_ (fun _ => ?_)
    · intro y0 y1 y2 y3 y4 y5 y6 y7 y8
      unfold arith_signs.j1
      repeat' first
      | (with_reducible exact ih0 _ _ _ _ _ _ _ _ _)
      | (with_reducible exact ih1 _ _ _ _ _ _ _ _ _)
      | (with_reducible exact fix_Sub.mono _ _ _)
      | (with_reducible exact LeO.refl _)
      | (with_reducible exact LeO.none _)
      | (with_reducible refine LeO.ite ?_ ?_)
      | (with_reducible refine LeO.bind ?_ (fun _ => ?_))
      | exact ih0 _ _ _ _ _ _ _ _ _
      | exact ih1 _ _ _ _ _ _ _ _ _
      | exact fix_Sub.mono _ _ _
      | exact LeO.none _
      | refine LeO.ite ?_ ?_
      | refine LeO.bind ?_ (fun _ => ?_)
theorem arith_signs.mono : ∀ a0 a1 a2 a3 a4 a5 a6 a7 a8 k, LeO (arith_signs.f k a0 a1 a2 a3 a4 a5 a6 a7 a8) (arith_signs.f (k + 1) a0 a1 a2 a3 a4 a5 a6 a7 a8) := by
  intro a0 a1 a2 a3 a4 a5 a6 a7 a8 k
  obtain ⟨ih0, ih1⟩ := arith_signs.mono_l k
  unfold arith_signs.f
  repeat' first
      | (with_reducible exact ih0 _ _ _ _ _ _ _ _ _)
      | (with_reducible exact ih1 _ _ _ _ _ _ _ _ _)
      | (with_reducible exact fix_Sub.mono _ _ _)
      | (with_reducible exact LeO.refl _)
      | (with_reducible exact LeO.none _)
      | (with_reducible refine LeO.ite ?_ ?_)
      | (with_reducible refine LeO.bind ?_ (fun _ => ?_))
      | exact ih0 _ _ _ _ _ _ _ _ _
      | exact ih1 _ _ _ _ _ _ _ _ _
      | exact fix_Sub.mono _ _ _
      | exact LeO.none _
      | refine LeO.ite ?_ ?_
      | refine LeO.bind ?_ (fun _ => ?_)
set_option maxHeartbeats 8000000 in
set_option maxRecDepth 100000 in
theorem arith_signs.calls (k : Nat) (a0 : ByteArray) (a1_0 : Int) (a1_1 : Bool) (a1_2 : Int) (a1_3 : Int) (a1_4 : ByteArray) (a1_5 : Int) (a1_6 : Int) (a1_7 : Int) (r1 : Int) (r2 : Bool) (r3 : Int) (r4 : Int) (r5 : ByteArray) (r6 : Int) (r7 : Int) (r8 : Int) (r9 : Int) (w : World) (h : arith_signs.f k a0 a1_0 a1_1 a1_2 a1_3 a1_4 a1_5 a1_6 a1_7 = some (r1, r2, r3, r4, r5, r6, r7, r8, r9)) :
    Calls Tryd.prog 42 #[.string a0, .agg #[.int .i64 a1_0, .bool a1_1, .int .i64 a1_2, .int .i64 a1_3, .string a1_4, .int .i64 a1_5, .int .i64 a1_6, .int .i64 a1_7]] w fun e w' => e = .returned (.tuple #[.agg #[.int .i64 r1, .bool r2, .int .i64 r3, .int .i64 r4, .string r5, .int .i64 r6, .int .i64 r7, .int .i64 r8], .int .i64 r9]) ∧ Below w.heap.size w w' := by
  have hu38 := Tryd.underlying38
  have HB := Aside0.mk (Below.refl w.heap.size w)
  have H : (if a0.toList = ([97, 98, 115] : List UInt8) then (arith_signs.j0 k (decide (a1_3 ≥ 0)) a1_0 a1_1 a1_2 a1_3 a1_4 a1_5 a1_6 a1_7) else (arith_signs.j0 k false a1_0 a1_1 a1_2 a1_3 a1_4 a1_5 a1_6 a1_7)) = some (r1, r2, r3, r4, r5, r6, r7, r8, r9) := h
  clear h
  have HC3 := Aside0.mk H
  clear H
  go_enter Tryd.func42, Tryd.ntmps42
  go_upto_region 1 with (first | ((with_reducible refine gate_dst (N := 3) rfl ?_); refine box_event ?hg (N := 3) ?hd (cs := #[.int .i64 a1_0, .bool a1_1, .int .i64 a1_2, .int .i64 a1_3, .string a1_4, .int .i64 a1_5, .int .i64 a1_6, .int .i64 a1_7]) (t := 38) ?hr ?_; (case hd => rfl); (case hg => rfl); (case hr => first | (go_simp; done) | (go_simp; rfl)); intro gb123 hg w4 hbox hb; have n0_ := Aside0.mk (below_step (by repeat (first | (with_reducible first | exact HB.out | apply below_alloc | apply pw_below_drewN | apply below_drew1) | exact HB.out)) hb); have n1_ := Aside0.mk (hbox); have n2_ := Aside0.mk ((by rw [hg]; exact (below_size (by repeat (first | (with_reducible first | exact HB.out | apply below_alloc | apply pw_below_drewN | apply below_drew1) | exact HB.out))) : w.heap.size ≤ gb123)); have n3_ := Aside0.mk ((by rw [hg]; exact (below_size (by repeat (first | (with_reducible first | exact HB.out | apply below_alloc | apply pw_below_drewN | apply below_drew1) | exact HB.out))) : w.heap.size ≤ gb123)); clear HB; have HB := n0_; have BK123 := n1_; have GW123 := n2_; have GE123 := n3_; clear n0_ n1_ n2_ n3_; clear hb hbox hg) | ((with_reducible refine gate_dst (N := 4) rfl ?_); refine box_event ?hg (N := 4) ?hd (cs := #[.int .i64 0, .bool false, .int .i64 0, .int .i64 0, .string (⟨#[]⟩ : ByteArray), .int .i64 0, .int .i64 0, .int .i64 0]) (t := 38) ?hr ?_; (case hd => rfl); (case hg => rfl); (case hr => first | (go_simp; done) | (go_simp; rfl)); intro gb124 hg w5 hbox hb; have n0_ := Aside0.mk (blk_below (g := gb123) (o := .cells #[.int .i64 a1_0, .bool a1_1, .int .i64 a1_2, .int .i64 a1_3, .string a1_4, .int .i64 a1_5, .int .i64 a1_6, .int .i64 a1_7] 38 (0, 0)) (by (with_reducible repeat (first | refine blk_drewN ?_ _ | refine blk_drew ?_ | refine blk_alloc ?_ _)); exact BK123.out) hb); have n1_ := Aside0.mk (below_step (by repeat (first | (with_reducible first | exact HB.out | apply below_alloc | apply pw_below_drewN | apply below_drew1 | refine below_set ?_ GE123.out) | exact HB.out)) hb); have n2_ := Aside0.mk (hbox); have n3_ := Aside0.mk ((by rw [hg]; exact (below_size (by repeat (first | (with_reducible first | exact HB.out | apply below_alloc | apply pw_below_drewN | apply below_drew1 | refine below_set ?_ GE123.out) | exact HB.out))) : w.heap.size ≤ gb124)); have n4_ := Aside0.mk ((by rw [hg]; exact (below_size (by repeat (first | (with_reducible first | exact HB.out | apply below_alloc | apply pw_below_drewN | apply below_drew1 | refine below_set ?_ GE123.out) | exact HB.out))) : w.heap.size ≤ gb124)); have n5_ := Aside0.mk ((by rw [hg]; exact Nat.ne_of_lt (blk_lt (g := gb123) (o := .cells #[.int .i64 a1_0, .bool a1_1, .int .i64 a1_2, .int .i64 a1_3, .string a1_4, .int .i64 a1_5, .int .i64 a1_6, .int .i64 a1_7] 38 (0, 0)) (by (with_reducible repeat (first | refine blk_drewN ?_ _ | refine blk_drew ?_ | refine blk_alloc ?_ _)); exact BK123.out)) : gb123 ≠ gb124)); have n6_ := Aside0.mk ((by rw [hg]; exact Nat.ne_of_gt (blk_lt (g := gb123) (o := .cells #[.int .i64 a1_0, .bool a1_1, .int .i64 a1_2, .int .i64 a1_3, .string a1_4, .int .i64 a1_5, .int .i64 a1_6, .int .i64 a1_7] 38 (0, 0)) (by (with_reducible repeat (first | refine blk_drewN ?_ _ | refine blk_drew ?_ | refine blk_alloc ?_ _)); exact BK123.out)) : gb124 ≠ gb123)); clear BK123; clear HB; have BK123 := n0_; have HB := n1_; have BK124 := n2_; have GW124 := n3_; have GE124 := n4_; have NB123_124 := n5_; have NB124_123 := n6_; clear n0_ n1_ n2_ n3_ n4_ n5_ n6_; clear hb hbox hg))
  (try simp only [Act.put, List.setIfInBounds_toArray, List.set_cons_zero, List.set_cons_succ])
  go_cut [14] (fun v14 wc => ∃ (kq : Nat) (x14_2 : Bool), v14 = .bool x14_2 ∧ Aside0 (arith_signs.j0 kq x14_2 a1_0 a1_1 a1_2 a1_3 a1_4 a1_5 a1_6 a1_7 = some (r1, r2, r3, r4, r5, r6, r7, r8, r9)) ∧ Aside0 (kq ≤ k) ∧ Aside0 (wc.heap[gb123]? = some (.cells #[.int .i64 a1_0, .bool a1_1, .int .i64 a1_2, .int .i64 a1_3, .string a1_4, .int .i64 a1_5, .int .i64 a1_6, .int .i64 a1_7] 38 (0, 0))) ∧ Aside0 (wc.heap[gb124]? = some (.cells #[.int .i64 0, .bool false, .int .i64 0, .int .i64 0, .string (⟨#[]⟩ : ByteArray), .int .i64 0, .int .i64 0, .int .i64 0] 38 (0, 0))) ∧ Aside0 (Below w.heap.size w wc))
  case first =>
    have H := HC3.out
    clear HC3
    by_cases c6 : a0.toList = ([97, 98, 115] : List UInt8)
    · rw [if_pos c6] at H
      have c6b0 : (a0.toList == ([97, 98, 115] : List UInt8)) = true := beq_iff_eq.mpr c6
      have c6b1 : (a0.toList != ([97, 98, 115] : List UInt8)) = false := bne_eq_false_iff_eq.mpr c6
      clear c6
      (first | rw [c6b0] | (simp only [i64_w, i32_w]; rw [c6b0]) | skip)
      have H' := Aside0.mk H
      clear H
      have hnb7 := NB123_124.out
      have hnc7 := NB124_123.out
      have hcz8_0 : w5.cell? ⟨gb123, 0, none⟩ = some (.int .i64 a1_0) := (blk_cell BK123.out 0).trans rfl
      have hcz8_1 : w5.cell? ⟨gb123, 1, none⟩ = some (.bool a1_1) := (blk_cell BK123.out 1).trans rfl
      have hcz8_2 : w5.cell? ⟨gb123, 2, none⟩ = some (.int .i64 a1_2) := (blk_cell BK123.out 2).trans rfl
      have hcz8_3 : w5.cell? ⟨gb123, 3, none⟩ = some (.int .i64 a1_3) := (blk_cell BK123.out 3).trans rfl
      have hcz8_4 : w5.cell? ⟨gb123, 4, none⟩ = some (.string a1_4) := (blk_cell BK123.out 4).trans rfl
      have hcz8_5 : w5.cell? ⟨gb123, 5, none⟩ = some (.int .i64 a1_5) := (blk_cell BK123.out 5).trans rfl
      have hcz8_6 : w5.cell? ⟨gb123, 6, none⟩ = some (.int .i64 a1_6) := (blk_cell BK123.out 6).trans rfl
      have hcz8_7 : w5.cell? ⟨gb123, 7, none⟩ = some (.int .i64 a1_7) := (blk_cell BK123.out 7).trans rfl
      have hfz8_0 := blk_frozen BK123.out 0
      have hfz8_1 := blk_frozen BK123.out 1
      have hfz8_2 := blk_frozen BK123.out 2
      have hfz8_3 := blk_frozen BK123.out 3
      have hfz8_4 := blk_frozen BK123.out 4
      have hfz8_5 := blk_frozen BK123.out 5
      have hfz8_6 := blk_frozen BK123.out 6
      have hfz8_7 := blk_frozen BK123.out 7
      go_wp2
      go_meet
      case rel => exact ⟨_, (decide (a1_3 ≥ 0)), (by first | rfl | (simp; done) | (simp [*]; done)), H', ⟨by first | omega | exact Nat.le_refl _⟩, ⟨by (with_reducible repeat (first | refine blk_drewN ?_ _ | refine blk_drew ?_ | refine blk_alloc ?_ _)); exact BK123.out⟩, ⟨by (with_reducible repeat (first | refine blk_drewN ?_ _ | refine blk_drew ?_ | refine blk_alloc ?_ _)); exact BK124.out⟩, ⟨by repeat (first | (with_reducible first | exact HB.out | apply below_alloc | apply pw_below_drewN | apply below_drew1 | refine below_set ?_ GE123.out | refine below_set ?_ GE124.out) | exact HB.out)⟩⟩
    · rw [if_neg c6] at H
      have c6b0 : (a0.toList == ([97, 98, 115] : List UInt8)) = false := beq_eq_false_iff_ne.mpr c6
      have c6b1 : (a0.toList != ([97, 98, 115] : List UInt8)) = true := bne_iff_ne.mpr c6
      (first | rw [c6b0] | (simp only [i64_w, i32_w]; rw [c6b0]) | skip)
      have H' := Aside0.mk H
      clear H
      go_wp2
      go_meet
      case rel => exact ⟨_, (false), (by first | rfl | (simp; done) | (simp [*]; done)), H', ⟨by first | omega | exact Nat.le_refl _⟩, ⟨by (with_reducible repeat (first | refine blk_drewN ?_ _ | refine blk_drew ?_ | refine blk_alloc ?_ _)); exact BK123.out⟩, ⟨by (with_reducible repeat (first | refine blk_drewN ?_ _ | refine blk_drew ?_ | refine blk_alloc ?_ _)); exact BK124.out⟩, ⟨by repeat (first | (with_reducible first | exact HB.out | apply below_alloc | apply pw_below_drewN | apply below_drew1 | refine below_set ?_ GE123.out | refine below_set ?_ GE124.out) | exact HB.out)⟩⟩
  case rest =>
    clear HC3
    try clear p2
    try clear c4
    try clear c6
    try clear c6b0
    try clear c6b1
    try clear c7
    try clear hcz8_0
    try clear hcz8_1
    try clear hcz8_2
    try clear hcz8_3
    try clear hcz8_4
    try clear hcz8_5
    try clear hcz8_6
    try clear hcz8_7
    try clear hfz8_0
    try clear hfz8_1
    try clear hfz8_2
    try clear hfz8_3
    try clear hfz8_4
    try clear hfz8_5
    try clear hfz8_6
    try clear hfz8_7
    obtain ⟨kq, x14_2, rfl, HA, HJ2, BK123, BK124, HB⟩ := hcut
    cases kq with
    | zero => exact absurd HA.out (by simp [arith_signs.j0])
    | succ kj2 =>
      have H := HA.out
      clear HA
      simp only [arith_signs.j0] at H
      by_cases c9 : x14_2 = true
      · subst c9
        have H1 : (some (a1_0, false, 0, a1_3, (⟨#[]⟩ : ByteArray), 0, 0, 0, 0)) = some (r1, r2, r3, r4, r5, r6, r7, r8, r9) := by rw [if_pos rfl] at H; exact H
        clear H
        have H := H1
        clear H1
        simp only [Option.some.injEq, Prod.mk.injEq] at H
        obtain ⟨rfl, rfl, rfl, rfl, rfl, rfl, rfl, rfl, rfl⟩ := H
        have hnb10 := NB123_124.out
        have hnc10 := NB124_123.out
        have hcz11_0 : wc.cell? ⟨gb123, 0, none⟩ = some (.int .i64 a1_0) := (blk_cell BK123.out 0).trans rfl
        have hcz11_1 : wc.cell? ⟨gb123, 1, none⟩ = some (.bool a1_1) := (blk_cell BK123.out 1).trans rfl
        have hcz11_2 : wc.cell? ⟨gb123, 2, none⟩ = some (.int .i64 a1_2) := (blk_cell BK123.out 2).trans rfl
        have hcz11_3 : wc.cell? ⟨gb123, 3, none⟩ = some (.int .i64 a1_3) := (blk_cell BK123.out 3).trans rfl
        have hcz11_4 : wc.cell? ⟨gb123, 4, none⟩ = some (.string a1_4) := (blk_cell BK123.out 4).trans rfl
        have hcz11_5 : wc.cell? ⟨gb123, 5, none⟩ = some (.int .i64 a1_5) := (blk_cell BK123.out 5).trans rfl
        have hcz11_6 : wc.cell? ⟨gb123, 6, none⟩ = some (.int .i64 a1_6) := (blk_cell BK123.out 6).trans rfl
        have hcz11_7 : wc.cell? ⟨gb123, 7, none⟩ = some (.int .i64 a1_7) := (blk_cell BK123.out 7).trans rfl
        have hfz11_0 := blk_frozen BK123.out 0
        have hfz11_1 := blk_frozen BK123.out 1
        have hfz11_2 := blk_frozen BK123.out 2
        have hfz11_3 := blk_frozen BK123.out 3
        have hfz11_4 := blk_frozen BK123.out 4
        have hfz11_5 := blk_frozen BK123.out 5
        have hfz11_6 := blk_frozen BK123.out 6
        have hfz11_7 := blk_frozen BK123.out 7
        have hcz12_0 : wc.cell? ⟨gb124, 0, none⟩ = some (.int .i64 0) := (blk_cell BK124.out 0).trans rfl
        have hcz12_1 : wc.cell? ⟨gb124, 1, none⟩ = some (.bool false) := (blk_cell BK124.out 1).trans rfl
        have hcz12_2 : wc.cell? ⟨gb124, 2, none⟩ = some (.int .i64 0) := (blk_cell BK124.out 2).trans rfl
        have hcz12_3 : wc.cell? ⟨gb124, 3, none⟩ = some (.int .i64 0) := (blk_cell BK124.out 3).trans rfl
        have hcz12_4 : wc.cell? ⟨gb124, 4, none⟩ = some (.string (⟨#[]⟩ : ByteArray)) := (blk_cell BK124.out 4).trans rfl
        have hcz12_5 : wc.cell? ⟨gb124, 5, none⟩ = some (.int .i64 0) := (blk_cell BK124.out 5).trans rfl
        have hcz12_6 : wc.cell? ⟨gb124, 6, none⟩ = some (.int .i64 0) := (blk_cell BK124.out 6).trans rfl
        have hcz12_7 : wc.cell? ⟨gb124, 7, none⟩ = some (.int .i64 0) := (blk_cell BK124.out 7).trans rfl
        have hfz12_0 := blk_frozen BK124.out 0
        have hfz12_1 := blk_frozen BK124.out 1
        have hfz12_2 := blk_frozen BK124.out 2
        have hfz12_3 := blk_frozen BK124.out 3
        have hfz12_4 := blk_frozen BK124.out 4
        have hfz12_5 := blk_frozen BK124.out 5
        have hfz12_6 := blk_frozen BK124.out 6
        have hfz12_7 := blk_frozen BK124.out 7
        go_wp2
        refine bodyPost_ret (results_ct rfl _ _ gb124 38 #[.int .i64 a1_0, .bool false, .int .i64 0, .int .i64 a1_3, .string (⟨#[]⟩ : ByteArray), .int .i64 0, .int .i64 0, .int .i64 0] (0, 0) _ rfl (by (with_reducible repeat (first | refine blk_drewN ?_ _ | refine blk_drew ?_ | refine blk_alloc ?_ _)); refine blk_put (cs := #[.int .i64 a1_0, .bool false, .int .i64 0, .int .i64 a1_3, .string (⟨#[]⟩ : ByteArray), .int .i64 0, .int .i64 0, .int .i64 0]) ?_ 7 _ rfl; (with_reducible repeat (first | refine blk_drewN ?_ _ | refine blk_drew ?_ | refine blk_alloc ?_ _)); refine blk_put (cs := #[.int .i64 a1_0, .bool false, .int .i64 0, .int .i64 a1_3, .string (⟨#[]⟩ : ByteArray), .int .i64 0, .int .i64 0, .int .i64 0]) ?_ 6 _ rfl; (with_reducible repeat (first | refine blk_drewN ?_ _ | refine blk_drew ?_ | refine blk_alloc ?_ _)); refine blk_put (cs := #[.int .i64 a1_0, .bool false, .int .i64 0, .int .i64 a1_3, .string (⟨#[]⟩ : ByteArray), .int .i64 0, .int .i64 0, .int .i64 0]) ?_ 5 _ rfl; (with_reducible repeat (first | refine blk_drewN ?_ _ | refine blk_drew ?_ | refine blk_alloc ?_ _)); refine blk_put (cs := #[.int .i64 a1_0, .bool false, .int .i64 0, .int .i64 a1_3, .string (⟨#[]⟩ : ByteArray), .int .i64 0, .int .i64 0, .int .i64 0]) ?_ 4 _ rfl; (with_reducible repeat (first | refine blk_drewN ?_ _ | refine blk_drew ?_ | refine blk_alloc ?_ _)); refine blk_put (cs := #[.int .i64 a1_0, .bool false, .int .i64 0, .int .i64 0, .string (⟨#[]⟩ : ByteArray), .int .i64 0, .int .i64 0, .int .i64 0]) ?_ 3 _ rfl; (with_reducible repeat (first | refine blk_drewN ?_ _ | refine blk_drew ?_ | refine blk_alloc ?_ _)); refine blk_put (cs := #[.int .i64 a1_0, .bool false, .int .i64 0, .int .i64 0, .string (⟨#[]⟩ : ByteArray), .int .i64 0, .int .i64 0, .int .i64 0]) ?_ 2 _ rfl; (with_reducible repeat (first | refine blk_drewN ?_ _ | refine blk_drew ?_ | refine blk_alloc ?_ _)); refine blk_put (cs := #[.int .i64 a1_0, .bool false, .int .i64 0, .int .i64 0, .string (⟨#[]⟩ : ByteArray), .int .i64 0, .int .i64 0, .int .i64 0]) ?_ 1 _ rfl; (with_reducible repeat (first | refine blk_drewN ?_ _ | refine blk_drew ?_ | refine blk_alloc ?_ _)); refine blk_put (cs := #[.int .i64 0, .bool false, .int .i64 0, .int .i64 0, .string (⟨#[]⟩ : ByteArray), .int .i64 0, .int .i64 0, .int .i64 0]) ?_ 0 _ rfl; (with_reducible repeat (first | refine blk_drewN ?_ _ | refine blk_drew ?_ | refine blk_alloc ?_ _)); exact BK124.out) Tryd.underlying38 rfl (by kernel_rfl)) rfl ?_
        exact ⟨by first | rfl | (simp [errW_none, errW_some] <;> rfl) | (simp [*, errW_none, errW_some] <;> rfl), by repeat (first | (with_reducible first | exact HB.out | apply below_alloc | apply pw_below_drewN | apply below_drew1 | refine below_set ?_ GE123.out | refine below_set ?_ GE124.out) | exact HB.out)⟩
      · replace c9 := Bool.eq_false_iff.mpr c9
        subst c9
        have H1 : (if a1_0 = 1 then ((arith_small.f (wrap64 (-a1_3))).bind fun t125 => (arith_signs.j1 kj2 t125 a1_0 a1_1 a1_2 a1_3 a1_4 a1_5 a1_6 a1_7)) else (arith_signs.j1 kj2 false a1_0 a1_1 a1_2 a1_3 a1_4 a1_5 a1_6 a1_7)) = some (r1, r2, r3, r4, r5, r6, r7, r8, r9) := by rw [if_neg (show ¬ (false = true) by decide)] at H; exact H
        clear H
        have H := H1
        clear H1
        have HC13 := Aside0.mk H
        clear H
        go_upto_region 3 with (fail)
        go_cut [28] (fun v28 wc => ∃ (kq : Nat) (x28_12 : Bool), v28 = .bool x28_12 ∧ Aside0 (arith_signs.j1 kq x28_12 a1_0 a1_1 a1_2 a1_3 a1_4 a1_5 a1_6 a1_7 = some (r1, r2, r3, r4, r5, r6, r7, r8, r9)) ∧ Aside0 (kq ≤ kj2) ∧ Aside0 (wc.heap[gb123]? = some (.cells #[.int .i64 a1_0, .bool a1_1, .int .i64 a1_2, .int .i64 a1_3, .string a1_4, .int .i64 a1_5, .int .i64 a1_6, .int .i64 a1_7] 38 (0, 0))) ∧ Aside0 (wc.heap[gb124]? = some (.cells #[.int .i64 0, .bool false, .int .i64 0, .int .i64 0, .string (⟨#[]⟩ : ByteArray), .int .i64 0, .int .i64 0, .int .i64 0] 38 (0, 0))) ∧ Aside0 (Below w.heap.size w wc))
        case first =>
          have H := HC13.out
          clear HC13
          by_cases c14 : a1_0 = 1
          · rw [if_pos c14] at H
            have c14b0 : (a1_0 == 1) = true := beq_iff_eq.mpr c14
            have c14b1 : (a1_0 != 1) = false := bne_eq_false_iff_eq.mpr c14
            clear c14
            (first | rw [c14b0] | (simp only [i64_w, i32_w]; rw [c14b0]) | skip)
            replace H := Option.bind_eq_some_iff.mp H
            obtain ⟨t125, A150, H⟩ := H
            replace H : (arith_signs.j1 kj2 t125 a1_0 a1_1 a1_2 a1_3 a1_4 a1_5 a1_6 a1_7) = some (r1, r2, r3, r4, r5, r6, r7, r8, r9) := H
            have A15 := Aside0.mk A150
            clear A150
            have H' := Aside0.mk H
            clear H
            have hnb16 := NB123_124.out
            have hnc16 := NB124_123.out
            have hcz17_0 : wc.cell? ⟨gb123, 0, none⟩ = some (.int .i64 a1_0) := (blk_cell BK123.out 0).trans rfl
            have hcz17_1 : wc.cell? ⟨gb123, 1, none⟩ = some (.bool a1_1) := (blk_cell BK123.out 1).trans rfl
            have hcz17_2 : wc.cell? ⟨gb123, 2, none⟩ = some (.int .i64 a1_2) := (blk_cell BK123.out 2).trans rfl
            have hcz17_3 : wc.cell? ⟨gb123, 3, none⟩ = some (.int .i64 a1_3) := (blk_cell BK123.out 3).trans rfl
            have hcz17_4 : wc.cell? ⟨gb123, 4, none⟩ = some (.string a1_4) := (blk_cell BK123.out 4).trans rfl
            have hcz17_5 : wc.cell? ⟨gb123, 5, none⟩ = some (.int .i64 a1_5) := (blk_cell BK123.out 5).trans rfl
            have hcz17_6 : wc.cell? ⟨gb123, 6, none⟩ = some (.int .i64 a1_6) := (blk_cell BK123.out 6).trans rfl
            have hcz17_7 : wc.cell? ⟨gb123, 7, none⟩ = some (.int .i64 a1_7) := (blk_cell BK123.out 7).trans rfl
            have hfz17_0 := blk_frozen BK123.out 0
            have hfz17_1 := blk_frozen BK123.out 1
            have hfz17_2 := blk_frozen BK123.out 2
            have hfz17_3 := blk_frozen BK123.out 3
            have hfz17_4 := blk_frozen BK123.out 4
            have hfz17_5 := blk_frozen BK123.out 5
            have hfz17_6 := blk_frozen BK123.out 6
            have hfz17_7 := blk_frozen BK123.out 7
            go_wp2_with (first | (go_at_call 61; (with_reducible refine (arith_small.calls (wrap64 (-a1_3)) t125 _ A15.out).mono ?_); rintro e w' ⟨rfl, ⟨nd, rfl⟩⟩))
            go_meet
            case rel => exact ⟨_, (t125), (by first | rfl | (simp; done) | (simp [*]; done)), H', ⟨by have := HJ2.out; first | omega | exact Nat.le_refl _⟩, ⟨by (with_reducible repeat (first | refine blk_drewN ?_ _ | refine blk_drew ?_ | refine blk_alloc ?_ _)); exact BK123.out⟩, ⟨by (with_reducible repeat (first | refine blk_drewN ?_ _ | refine blk_drew ?_ | refine blk_alloc ?_ _)); exact BK124.out⟩, ⟨by repeat (first | (with_reducible first | exact HB.out | apply below_alloc | apply pw_below_drewN | apply below_drew1 | refine below_set ?_ GE123.out | refine below_set ?_ GE124.out) | exact HB.out)⟩⟩
          · rw [if_neg c14] at H
            have c14b0 : (a1_0 == 1) = false := beq_eq_false_iff_ne.mpr c14
            have c14b1 : (a1_0 != 1) = true := bne_iff_ne.mpr c14
            (first | rw [c14b0] | (simp only [i64_w, i32_w]; rw [c14b0]) | skip)
            have H' := Aside0.mk H
            clear H
            have hnb18 := NB123_124.out
            have hnc18 := NB124_123.out
            have hcz19_0 : wc.cell? ⟨gb123, 0, none⟩ = some (.int .i64 a1_0) := (blk_cell BK123.out 0).trans rfl
            have hcz19_1 : wc.cell? ⟨gb123, 1, none⟩ = some (.bool a1_1) := (blk_cell BK123.out 1).trans rfl
            have hcz19_2 : wc.cell? ⟨gb123, 2, none⟩ = some (.int .i64 a1_2) := (blk_cell BK123.out 2).trans rfl
            have hcz19_3 : wc.cell? ⟨gb123, 3, none⟩ = some (.int .i64 a1_3) := (blk_cell BK123.out 3).trans rfl
            have hcz19_4 : wc.cell? ⟨gb123, 4, none⟩ = some (.string a1_4) := (blk_cell BK123.out 4).trans rfl
            have hcz19_5 : wc.cell? ⟨gb123, 5, none⟩ = some (.int .i64 a1_5) := (blk_cell BK123.out 5).trans rfl
            have hcz19_6 : wc.cell? ⟨gb123, 6, none⟩ = some (.int .i64 a1_6) := (blk_cell BK123.out 6).trans rfl
            have hcz19_7 : wc.cell? ⟨gb123, 7, none⟩ = some (.int .i64 a1_7) := (blk_cell BK123.out 7).trans rfl
            have hfz19_0 := blk_frozen BK123.out 0
            have hfz19_1 := blk_frozen BK123.out 1
            have hfz19_2 := blk_frozen BK123.out 2
            have hfz19_3 := blk_frozen BK123.out 3
            have hfz19_4 := blk_frozen BK123.out 4
            have hfz19_5 := blk_frozen BK123.out 5
            have hfz19_6 := blk_frozen BK123.out 6
            have hfz19_7 := blk_frozen BK123.out 7
            go_wp2
            go_meet
            case rel => exact ⟨_, (false), (by first | rfl | (simp; done) | (simp [*]; done)), H', ⟨by have := HJ2.out; first | omega | exact Nat.le_refl _⟩, ⟨by (with_reducible repeat (first | refine blk_drewN ?_ _ | refine blk_drew ?_ | refine blk_alloc ?_ _)); exact BK123.out⟩, ⟨by (with_reducible repeat (first | refine blk_drewN ?_ _ | refine blk_drew ?_ | refine blk_alloc ?_ _)); exact BK124.out⟩, ⟨by repeat (first | (with_reducible first | exact HB.out | apply below_alloc | apply pw_below_drewN | apply below_drew1 | refine below_set ?_ GE123.out | refine below_set ?_ GE124.out) | exact HB.out)⟩⟩
        case rest =>
          clear HC13
          try clear c1
          try clear p2
          try clear c4
          try clear c6
          try clear c6b0
          try clear c6b1
          try clear p6
          try clear c7
          try clear c9
          try clear c10
          try clear c14
          try clear c14b0
          try clear c14b1
          try clear c16
          try clear c18
          try clear hcz11_0
          try clear hcz11_1
          try clear hcz11_2
          try clear hcz11_3
          try clear hcz11_4
          try clear hcz11_5
          try clear hcz11_6
          try clear hcz11_7
          try clear hcz12_0
          try clear hcz12_1
          try clear hcz12_2
          try clear hcz12_3
          try clear hcz12_4
          try clear hcz12_5
          try clear hcz12_6
          try clear hcz12_7
          try clear hcz17_0
          try clear hcz17_1
          try clear hcz17_2
          try clear hcz17_3
          try clear hcz17_4
          try clear hcz17_5
          try clear hcz17_6
          try clear hcz17_7
          try clear hcz19_0
          try clear hcz19_1
          try clear hcz19_2
          try clear hcz19_3
          try clear hcz19_4
          try clear hcz19_5
          try clear hcz19_6
          try clear hcz19_7
          try clear hcz8_0
          try clear hcz8_1
          try clear hcz8_2
          try clear hcz8_3
          try clear hcz8_4
          try clear hcz8_5
          try clear hcz8_6
          try clear hcz8_7
          try clear hfz11_0
          try clear hfz11_1
          try clear hfz11_2
          try clear hfz11_3
          try clear hfz11_4
          try clear hfz11_5
          try clear hfz11_6
          try clear hfz11_7
          try clear hfz12_0
          try clear hfz12_1
          try clear hfz12_2
          try clear hfz12_3
          try clear hfz12_4
          try clear hfz12_5
          try clear hfz12_6
          try clear hfz12_7
          try clear hfz17_0
          try clear hfz17_1
          try clear hfz17_2
          try clear hfz17_3
          try clear hfz17_4
          try clear hfz17_5
          try clear hfz17_6
          try clear hfz17_7
          try clear hfz19_0
          try clear hfz19_1
          try clear hfz19_2
          try clear hfz19_3
          try clear hfz19_4
          try clear hfz19_5
          try clear hfz19_6
          try clear hfz19_7
          try clear hfz8_0
          try clear hfz8_1
          try clear hfz8_2
          try clear hfz8_3
          try clear hfz8_4
          try clear hfz8_5
          try clear hfz8_6
          try clear hfz8_7
          try clear p2
          obtain ⟨kq, x28_12, rfl, HA, HJ12, BK123, BK124, HB⟩ := hcut
          cases kq with
          | zero => exact absurd HA.out (by simp [arith_signs.j1])
          | succ kj12 =>
            have H := HA.out
            clear HA
            simp only [arith_signs.j1] at H
            by_cases c20 : x28_12 = true
            · subst c20
              have H1 : ((arith_whole.f (wrap64 (-a1_3))).bind fun bt126 => (some (bt126.1, bt126.2.1, bt126.2.2.1, bt126.2.2.2.1, bt126.2.2.2.2.1, bt126.2.2.2.2.2.1, bt126.2.2.2.2.2.2.1, bt126.2.2.2.2.2.2.2, 0))) = some (r1, r2, r3, r4, r5, r6, r7, r8, r9) := by rw [if_pos rfl] at H; exact H
              clear H
              have H := H1
              clear H1
              replace H := Option.bind_eq_some_iff.mp H
              obtain ⟨⟨t126, t127, t128, t129, t130, t131, t132, t133⟩, A210, H⟩ := H
              replace H : (some (t126, t127, t128, t129, t130, t131, t132, t133, 0)) = some (r1, r2, r3, r4, r5, r6, r7, r8, r9) := H
              have A21 := Aside0.mk A210
              clear A210
              simp only [Option.some.injEq, Prod.mk.injEq] at H
              obtain ⟨rfl, rfl, rfl, rfl, rfl, rfl, rfl, rfl, rfl⟩ := H
              have hnb22 := NB123_124.out
              have hnc22 := NB124_123.out
              have hcz23_0 : wc.cell? ⟨gb123, 0, none⟩ = some (.int .i64 a1_0) := (blk_cell BK123.out 0).trans rfl
              have hcz23_1 : wc.cell? ⟨gb123, 1, none⟩ = some (.bool a1_1) := (blk_cell BK123.out 1).trans rfl
              have hcz23_2 : wc.cell? ⟨gb123, 2, none⟩ = some (.int .i64 a1_2) := (blk_cell BK123.out 2).trans rfl
              have hcz23_3 : wc.cell? ⟨gb123, 3, none⟩ = some (.int .i64 a1_3) := (blk_cell BK123.out 3).trans rfl
              have hcz23_4 : wc.cell? ⟨gb123, 4, none⟩ = some (.string a1_4) := (blk_cell BK123.out 4).trans rfl
              have hcz23_5 : wc.cell? ⟨gb123, 5, none⟩ = some (.int .i64 a1_5) := (blk_cell BK123.out 5).trans rfl
              have hcz23_6 : wc.cell? ⟨gb123, 6, none⟩ = some (.int .i64 a1_6) := (blk_cell BK123.out 6).trans rfl
              have hcz23_7 : wc.cell? ⟨gb123, 7, none⟩ = some (.int .i64 a1_7) := (blk_cell BK123.out 7).trans rfl
              have hfz23_0 := blk_frozen BK123.out 0
              have hfz23_1 := blk_frozen BK123.out 1
              have hfz23_2 := blk_frozen BK123.out 2
              have hfz23_3 := blk_frozen BK123.out 3
              have hfz23_4 := blk_frozen BK123.out 4
              have hfz23_5 := blk_frozen BK123.out 5
              have hfz23_6 := blk_frozen BK123.out 6
              have hfz23_7 := blk_frozen BK123.out 7
              go_wp2_with (first | ((with_reducible refine gate_callee (f := 41) rfl ?_); refine goesL_ (some 32) rfl rfl Tryd.func41 (by kernel_rfl) rfl #[.int .i64 (wrap64 (-a1_3))] rfl (by (try simp only [List.map_toArray, List.map_cons, List.map_nil]); first | done | rfl | (simp only [List.length_drop, List.length_take]; rfl)) ?_; (with_reducible refine (arith_whole.calls (wrap64 (-a1_3)) t126 t127 t128 t129 t130 t131 t132 t133 _ A21.out).mono ?_); rintro e w24 ⟨rfl, hb⟩; refine ⟨_, rfl, ?_⟩; have n0_ := Aside0.mk (blk_below (g := gb123) (o := .cells #[.int .i64 a1_0, .bool a1_1, .int .i64 a1_2, .int .i64 a1_3, .string a1_4, .int .i64 a1_5, .int .i64 a1_6, .int .i64 a1_7] 38 (0, 0)) (by (with_reducible repeat (first | refine blk_drewN ?_ _ | refine blk_drew ?_ | refine blk_alloc ?_ _)); exact BK123.out) hb); have n1_ := Aside0.mk (blk_below (g := gb124) (o := .cells #[.int .i64 0, .bool false, .int .i64 0, .int .i64 0, .string (⟨#[]⟩ : ByteArray), .int .i64 0, .int .i64 0, .int .i64 0] 38 (0, 0)) (by (with_reducible repeat (first | refine blk_drewN ?_ _ | refine blk_drew ?_ | refine blk_alloc ?_ _)); exact BK124.out) hb); have n2_ := Aside0.mk (below_step (by repeat (first | (with_reducible first | exact HB.out | apply below_alloc | apply pw_below_drewN | apply below_drew1 | refine below_set ?_ GE123.out | refine below_set ?_ GE124.out) | exact HB.out)) hb); clear BK123; clear BK124; clear HB; have BK123 := n0_; have BK124 := n1_; have HB := n2_; clear n0_ n1_ n2_; (try clear hb); (try clear hb2); (try clear hk); (try clear hi); obtain ⟨hcz25_0, hcz25_1, hcz25_2, hcz25_3, hcz25_4, hcz25_5, hcz25_6, hcz25_7⟩ := pc8 BK124.out; obtain ⟨hfz25_0, hfz25_1, hfz25_2, hfz25_3, hfz25_4, hfz25_5, hfz25_6, hfz25_7⟩ := pf8 BK124.out))
              refine bodyPost_ret (results_ct rfl _ _ gb124 38 #[.int .i64 t126, .bool t127, .int .i64 t128, .int .i64 t129, .string t130, .int .i64 t131, .int .i64 t132, .int .i64 t133] (0, 0) _ rfl (by (with_reducible repeat (first | refine blk_drewN ?_ _ | refine blk_drew ?_ | refine blk_alloc ?_ _)); refine blk_put (cs := #[.int .i64 t126, .bool t127, .int .i64 t128, .int .i64 t129, .string t130, .int .i64 t131, .int .i64 t132, .int .i64 0]) ?_ 7 _ rfl; (with_reducible repeat (first | refine blk_drewN ?_ _ | refine blk_drew ?_ | refine blk_alloc ?_ _)); refine blk_put (cs := #[.int .i64 t126, .bool t127, .int .i64 t128, .int .i64 t129, .string t130, .int .i64 t131, .int .i64 0, .int .i64 0]) ?_ 6 _ rfl; (with_reducible repeat (first | refine blk_drewN ?_ _ | refine blk_drew ?_ | refine blk_alloc ?_ _)); refine blk_put (cs := #[.int .i64 t126, .bool t127, .int .i64 t128, .int .i64 t129, .string t130, .int .i64 0, .int .i64 0, .int .i64 0]) ?_ 5 _ rfl; (with_reducible repeat (first | refine blk_drewN ?_ _ | refine blk_drew ?_ | refine blk_alloc ?_ _)); refine blk_put (cs := #[.int .i64 t126, .bool t127, .int .i64 t128, .int .i64 t129, .string (⟨#[]⟩ : ByteArray), .int .i64 0, .int .i64 0, .int .i64 0]) ?_ 4 _ rfl; (with_reducible repeat (first | refine blk_drewN ?_ _ | refine blk_drew ?_ | refine blk_alloc ?_ _)); refine blk_put (cs := #[.int .i64 t126, .bool t127, .int .i64 t128, .int .i64 0, .string (⟨#[]⟩ : ByteArray), .int .i64 0, .int .i64 0, .int .i64 0]) ?_ 3 _ rfl; (with_reducible repeat (first | refine blk_drewN ?_ _ | refine blk_drew ?_ | refine blk_alloc ?_ _)); refine blk_put (cs := #[.int .i64 t126, .bool t127, .int .i64 0, .int .i64 0, .string (⟨#[]⟩ : ByteArray), .int .i64 0, .int .i64 0, .int .i64 0]) ?_ 2 _ rfl; (with_reducible repeat (first | refine blk_drewN ?_ _ | refine blk_drew ?_ | refine blk_alloc ?_ _)); refine blk_put (cs := #[.int .i64 t126, .bool false, .int .i64 0, .int .i64 0, .string (⟨#[]⟩ : ByteArray), .int .i64 0, .int .i64 0, .int .i64 0]) ?_ 1 _ rfl; (with_reducible repeat (first | refine blk_drewN ?_ _ | refine blk_drew ?_ | refine blk_alloc ?_ _)); refine blk_put (cs := #[.int .i64 0, .bool false, .int .i64 0, .int .i64 0, .string (⟨#[]⟩ : ByteArray), .int .i64 0, .int .i64 0, .int .i64 0]) ?_ 0 _ rfl; (with_reducible repeat (first | refine blk_drewN ?_ _ | refine blk_drew ?_ | refine blk_alloc ?_ _)); exact BK124.out) Tryd.underlying38 rfl (by kernel_rfl)) rfl ?_
              exact ⟨by first | rfl | (simp [errW_none, errW_some] <;> rfl) | (simp [*, errW_none, errW_some] <;> rfl), by repeat (first | (with_reducible first | exact HB.out | apply below_alloc | apply pw_below_drewN | apply below_drew1 | refine below_set ?_ GE123.out | refine below_set ?_ GE124.out) | exact HB.out)⟩
            · replace c20 := Bool.eq_false_iff.mpr c20
              subst c20
              have H1 : ((arith_asReal.f a1_0 a1_1 a1_2 a1_3 a1_4 a1_5 a1_6 a1_7).bind fun bt134 => (if bt134.2 = 0 then ((fix_Sub.f kj12 0 bt134.1).bind fun bt136 => (if bt136.2 = 0 then ((arith_real.f bt136.1).bind fun bt138 => (some (bt138.1, bt138.2.1, bt138.2.2.1, bt138.2.2.2.1, bt138.2.2.2.2.1, bt138.2.2.2.2.2.1, bt138.2.2.2.2.2.2.1, bt138.2.2.2.2.2.2.2, 0))) else (some (0, false, 0, 0, (⟨#[]⟩ : ByteArray), 0, 0, 0, bt136.2)))) else (some (0, false, 0, 0, (⟨#[]⟩ : ByteArray), 0, 0, 0, bt134.2)))) = some (r1, r2, r3, r4, r5, r6, r7, r8, r9) := by rw [if_neg (show ¬ (false = true) by decide)] at H; exact H
              clear H
              have H := H1
              clear H1
              replace H := Option.bind_eq_some_iff.mp H
              obtain ⟨⟨t134, t135⟩, A260, H⟩ := H
              replace H : (if t135 = 0 then ((fix_Sub.f kj12 0 t134).bind fun bt136 => (if bt136.2 = 0 then ((arith_real.f bt136.1).bind fun bt138 => (some (bt138.1, bt138.2.1, bt138.2.2.1, bt138.2.2.2.1, bt138.2.2.2.2.1, bt138.2.2.2.2.2.1, bt138.2.2.2.2.2.2.1, bt138.2.2.2.2.2.2.2, 0))) else (some (0, false, 0, 0, (⟨#[]⟩ : ByteArray), 0, 0, 0, bt136.2)))) else (some (0, false, 0, 0, (⟨#[]⟩ : ByteArray), 0, 0, 0, t135))) = some (r1, r2, r3, r4, r5, r6, r7, r8, r9) := H
              have A26 := Aside0.mk A260
              clear A260
              by_cases c27 : t135 = 0
              · rw [if_pos c27] at H
                have c27b0 : (t135 == 0) = true := beq_iff_eq.mpr c27
                have c27b1 : (t135 != 0) = false := bne_eq_false_iff_eq.mpr c27
                clear c27
                replace H := Option.bind_eq_some_iff.mp H
                obtain ⟨⟨t136, t137⟩, A280, H⟩ := H
                replace H : (if t137 = 0 then ((arith_real.f t136).bind fun bt138 => (some (bt138.1, bt138.2.1, bt138.2.2.1, bt138.2.2.2.1, bt138.2.2.2.2.1, bt138.2.2.2.2.2.1, bt138.2.2.2.2.2.2.1, bt138.2.2.2.2.2.2.2, 0))) else (some (0, false, 0, 0, (⟨#[]⟩ : ByteArray), 0, 0, 0, t137))) = some (r1, r2, r3, r4, r5, r6, r7, r8, r9) := H
                have A28 := Aside0.mk A280
                clear A280
                by_cases c29 : t137 = 0
                · rw [if_pos c29] at H
                  have c29b0 : (t137 == 0) = true := beq_iff_eq.mpr c29
                  have c29b1 : (t137 != 0) = false := bne_eq_false_iff_eq.mpr c29
                  clear c29
                  replace H := Option.bind_eq_some_iff.mp H
                  obtain ⟨⟨t138, t139, t140, t141, t142, t143, t144, t145⟩, A300, H⟩ := H
                  replace H : (some (t138, t139, t140, t141, t142, t143, t144, t145, 0)) = some (r1, r2, r3, r4, r5, r6, r7, r8, r9) := H
                  have A30 := Aside0.mk A300
                  clear A300
                  simp only [Option.some.injEq, Prod.mk.injEq] at H
                  obtain ⟨rfl, rfl, rfl, rfl, rfl, rfl, rfl, rfl, rfl⟩ := H
                  have hnb31 := NB123_124.out
                  have hnc31 := NB124_123.out
                  have hcz32_0 : wc.cell? ⟨gb123, 0, none⟩ = some (.int .i64 a1_0) := (blk_cell BK123.out 0).trans rfl
                  have hcz32_1 : wc.cell? ⟨gb123, 1, none⟩ = some (.bool a1_1) := (blk_cell BK123.out 1).trans rfl
                  have hcz32_2 : wc.cell? ⟨gb123, 2, none⟩ = some (.int .i64 a1_2) := (blk_cell BK123.out 2).trans rfl
                  have hcz32_3 : wc.cell? ⟨gb123, 3, none⟩ = some (.int .i64 a1_3) := (blk_cell BK123.out 3).trans rfl
                  have hcz32_4 : wc.cell? ⟨gb123, 4, none⟩ = some (.string a1_4) := (blk_cell BK123.out 4).trans rfl
                  have hcz32_5 : wc.cell? ⟨gb123, 5, none⟩ = some (.int .i64 a1_5) := (blk_cell BK123.out 5).trans rfl
                  have hcz32_6 : wc.cell? ⟨gb123, 6, none⟩ = some (.int .i64 a1_6) := (blk_cell BK123.out 6).trans rfl
                  have hcz32_7 : wc.cell? ⟨gb123, 7, none⟩ = some (.int .i64 a1_7) := (blk_cell BK123.out 7).trans rfl
                  have hfz32_0 := blk_frozen BK123.out 0
                  have hfz32_1 := blk_frozen BK123.out 1
                  have hfz32_2 := blk_frozen BK123.out 2
                  have hfz32_3 := blk_frozen BK123.out 3
                  have hfz32_4 := blk_frozen BK123.out 4
                  have hfz32_5 := blk_frozen BK123.out 5
                  have hfz32_6 := blk_frozen BK123.out 6
                  have hfz32_7 := blk_frozen BK123.out 7
                  go_wp2_with (first | ((with_reducible refine gate_callee (f := 63) rfl ?_); refine goesL_ (some 35) rfl rfl Tryd.func63 (by kernel_rfl) rfl #[.agg #[.int .i64 a1_0, .bool a1_1, .int .i64 a1_2, .int .i64 a1_3, .string a1_4, .int .i64 a1_5, .int .i64 a1_6, .int .i64 a1_7]] rfl (by (try simp only [List.map_toArray, List.map_cons, List.map_nil]); first | done | rfl | (simp only [List.length_drop, List.length_take]; rfl)) ?_; (with_reducible refine (arith_asReal.calls a1_0 a1_1 a1_2 a1_3 a1_4 a1_5 a1_6 a1_7 t134 t135 _ A26.out).mono ?_); rintro e w33 ⟨rfl, hb⟩; refine ⟨_, rfl, ?_⟩; have n0_ := Aside0.mk (blk_below (g := gb123) (o := .cells #[.int .i64 a1_0, .bool a1_1, .int .i64 a1_2, .int .i64 a1_3, .string a1_4, .int .i64 a1_5, .int .i64 a1_6, .int .i64 a1_7] 38 (0, 0)) (by (with_reducible repeat (first | refine blk_drewN ?_ _ | refine blk_drew ?_ | refine blk_alloc ?_ _)); exact BK123.out) hb); have n1_ := Aside0.mk (blk_below (g := gb124) (o := .cells #[.int .i64 0, .bool false, .int .i64 0, .int .i64 0, .string (⟨#[]⟩ : ByteArray), .int .i64 0, .int .i64 0, .int .i64 0] 38 (0, 0)) (by (with_reducible repeat (first | refine blk_drewN ?_ _ | refine blk_drew ?_ | refine blk_alloc ?_ _)); exact BK124.out) hb); have n2_ := Aside0.mk (below_step (by repeat (first | (with_reducible first | exact HB.out | apply below_alloc | apply pw_below_drewN | apply below_drew1 | refine below_set ?_ GE123.out | refine below_set ?_ GE124.out) | exact HB.out)) hb); clear BK123; clear BK124; clear HB; have BK123 := n0_; have BK124 := n1_; have HB := n2_; clear n0_ n1_ n2_; (try clear hb); (try clear hb2); (try clear hk); (try clear hi)) | ((with_reducible refine gate_callee (f := 64) rfl ?_); refine goesL_ (some 44) rfl rfl Tryd.func64 (by kernel_rfl) rfl #[.int .i64 0, .int .i64 t134] rfl (by (try simp only [List.map_toArray, List.map_cons, List.map_nil]); first | done | rfl | (simp only [List.length_drop, List.length_take]; rfl)) ?_; (with_reducible refine (fix_Sub.calls kj12 0 t134 t136 t137 _ A28.out).mono ?_); rintro e w34 ⟨rfl, hb⟩; refine ⟨_, rfl, ?_⟩; have n0_ := Aside0.mk (blk_below (g := gb123) (o := .cells #[.int .i64 a1_0, .bool a1_1, .int .i64 a1_2, .int .i64 a1_3, .string a1_4, .int .i64 a1_5, .int .i64 a1_6, .int .i64 a1_7] 38 (0, 0)) (by (with_reducible repeat (first | refine blk_drewN ?_ _ | refine blk_drew ?_ | refine blk_alloc ?_ _)); exact BK123.out) hb); have n1_ := Aside0.mk (blk_below (g := gb124) (o := .cells #[.int .i64 0, .bool false, .int .i64 0, .int .i64 0, .string (⟨#[]⟩ : ByteArray), .int .i64 0, .int .i64 0, .int .i64 0] 38 (0, 0)) (by (with_reducible repeat (first | refine blk_drewN ?_ _ | refine blk_drew ?_ | refine blk_alloc ?_ _)); exact BK124.out) hb); have n2_ := Aside0.mk (below_step (by repeat (first | (with_reducible first | exact HB.out | apply below_alloc | apply pw_below_drewN | apply below_drew1 | refine below_set ?_ GE123.out | refine below_set ?_ GE124.out) | exact HB.out)) hb); clear BK123; clear BK124; clear HB; have BK123 := n0_; have BK124 := n1_; have HB := n2_; clear n0_ n1_ n2_; (try clear hb); (try clear hb2); (try clear hk); (try clear hi)) | ((with_reducible refine gate_callee (f := 65) rfl ?_); refine goesL_ (some 52) rfl rfl Tryd.func65 (by kernel_rfl) rfl #[.int .i64 t136] rfl (by (try simp only [List.map_toArray, List.map_cons, List.map_nil]); first | done | rfl | (simp only [List.length_drop, List.length_take]; rfl)) ?_; (with_reducible refine (arith_real.calls t136 t138 t139 t140 t141 t142 t143 t144 t145 _ A30.out).mono ?_); rintro e w35 ⟨rfl, hb⟩; refine ⟨_, rfl, ?_⟩; have n0_ := Aside0.mk (blk_below (g := gb123) (o := .cells #[.int .i64 a1_0, .bool a1_1, .int .i64 a1_2, .int .i64 a1_3, .string a1_4, .int .i64 a1_5, .int .i64 a1_6, .int .i64 a1_7] 38 (0, 0)) (by (with_reducible repeat (first | refine blk_drewN ?_ _ | refine blk_drew ?_ | refine blk_alloc ?_ _)); exact BK123.out) hb); have n1_ := Aside0.mk (blk_below (g := gb124) (o := .cells #[.int .i64 0, .bool false, .int .i64 0, .int .i64 0, .string (⟨#[]⟩ : ByteArray), .int .i64 0, .int .i64 0, .int .i64 0] 38 (0, 0)) (by (with_reducible repeat (first | refine blk_drewN ?_ _ | refine blk_drew ?_ | refine blk_alloc ?_ _)); exact BK124.out) hb); have n2_ := Aside0.mk (below_step (by repeat (first | (with_reducible first | exact HB.out | apply below_alloc | apply pw_below_drewN | apply below_drew1 | refine below_set ?_ GE123.out | refine below_set ?_ GE124.out) | exact HB.out)) hb); clear BK123; clear BK124; clear HB; have BK123 := n0_; have BK124 := n1_; have HB := n2_; clear n0_ n1_ n2_; (try clear hb); (try clear hb2); (try clear hk); (try clear hi); obtain ⟨hcz36_0, hcz36_1, hcz36_2, hcz36_3, hcz36_4, hcz36_5, hcz36_6, hcz36_7⟩ := pc8 BK124.out; obtain ⟨hfz36_0, hfz36_1, hfz36_2, hfz36_3, hfz36_4, hfz36_5, hfz36_6, hfz36_7⟩ := pf8 BK124.out))
                  refine bodyPost_ret (results_ct rfl _ _ gb124 38 #[.int .i64 t138, .bool t139, .int .i64 t140, .int .i64 t141, .string t142, .int .i64 t143, .int .i64 t144, .int .i64 t145] (0, 0) _ rfl (by (with_reducible repeat (first | refine blk_drewN ?_ _ | refine blk_drew ?_ | refine blk_alloc ?_ _)); refine blk_put (cs := #[.int .i64 t138, .bool t139, .int .i64 t140, .int .i64 t141, .string t142, .int .i64 t143, .int .i64 t144, .int .i64 0]) ?_ 7 _ rfl; (with_reducible repeat (first | refine blk_drewN ?_ _ | refine blk_drew ?_ | refine blk_alloc ?_ _)); refine blk_put (cs := #[.int .i64 t138, .bool t139, .int .i64 t140, .int .i64 t141, .string t142, .int .i64 t143, .int .i64 0, .int .i64 0]) ?_ 6 _ rfl; (with_reducible repeat (first | refine blk_drewN ?_ _ | refine blk_drew ?_ | refine blk_alloc ?_ _)); refine blk_put (cs := #[.int .i64 t138, .bool t139, .int .i64 t140, .int .i64 t141, .string t142, .int .i64 0, .int .i64 0, .int .i64 0]) ?_ 5 _ rfl; (with_reducible repeat (first | refine blk_drewN ?_ _ | refine blk_drew ?_ | refine blk_alloc ?_ _)); refine blk_put (cs := #[.int .i64 t138, .bool t139, .int .i64 t140, .int .i64 t141, .string (⟨#[]⟩ : ByteArray), .int .i64 0, .int .i64 0, .int .i64 0]) ?_ 4 _ rfl; (with_reducible repeat (first | refine blk_drewN ?_ _ | refine blk_drew ?_ | refine blk_alloc ?_ _)); refine blk_put (cs := #[.int .i64 t138, .bool t139, .int .i64 t140, .int .i64 0, .string (⟨#[]⟩ : ByteArray), .int .i64 0, .int .i64 0, .int .i64 0]) ?_ 3 _ rfl; (with_reducible repeat (first | refine blk_drewN ?_ _ | refine blk_drew ?_ | refine blk_alloc ?_ _)); refine blk_put (cs := #[.int .i64 t138, .bool t139, .int .i64 0, .int .i64 0, .string (⟨#[]⟩ : ByteArray), .int .i64 0, .int .i64 0, .int .i64 0]) ?_ 2 _ rfl; (with_reducible repeat (first | refine blk_drewN ?_ _ | refine blk_drew ?_ | refine blk_alloc ?_ _)); refine blk_put (cs := #[.int .i64 t138, .bool false, .int .i64 0, .int .i64 0, .string (⟨#[]⟩ : ByteArray), .int .i64 0, .int .i64 0, .int .i64 0]) ?_ 1 _ rfl; (with_reducible repeat (first | refine blk_drewN ?_ _ | refine blk_drew ?_ | refine blk_alloc ?_ _)); refine blk_put (cs := #[.int .i64 0, .bool false, .int .i64 0, .int .i64 0, .string (⟨#[]⟩ : ByteArray), .int .i64 0, .int .i64 0, .int .i64 0]) ?_ 0 _ rfl; (with_reducible repeat (first | refine blk_drewN ?_ _ | refine blk_drew ?_ | refine blk_alloc ?_ _)); exact BK124.out) Tryd.underlying38 rfl (by kernel_rfl)) rfl ?_
                  exact ⟨by first | rfl | (simp [errW_none, errW_some] <;> rfl) | (simp [*, errW_none, errW_some] <;> rfl), by repeat (first | (with_reducible first | exact HB.out | apply below_alloc | apply pw_below_drewN | apply below_drew1 | refine below_set ?_ GE123.out | refine below_set ?_ GE124.out) | exact HB.out)⟩
                · rw [if_neg c29] at H
                  have c29b0 : (t137 == 0) = false := beq_eq_false_iff_ne.mpr c29
                  have c29b1 : (t137 != 0) = true := bne_iff_ne.mpr c29
                  simp only [Option.some.injEq, Prod.mk.injEq] at H
                  obtain ⟨rfl, rfl, rfl, rfl, rfl, rfl, rfl, rfl, rfl⟩ := H
                  have hnb37 := NB123_124.out
                  have hnc37 := NB124_123.out
                  have hcz38_0 : wc.cell? ⟨gb123, 0, none⟩ = some (.int .i64 a1_0) := (blk_cell BK123.out 0).trans rfl
                  have hcz38_1 : wc.cell? ⟨gb123, 1, none⟩ = some (.bool a1_1) := (blk_cell BK123.out 1).trans rfl
                  have hcz38_2 : wc.cell? ⟨gb123, 2, none⟩ = some (.int .i64 a1_2) := (blk_cell BK123.out 2).trans rfl
                  have hcz38_3 : wc.cell? ⟨gb123, 3, none⟩ = some (.int .i64 a1_3) := (blk_cell BK123.out 3).trans rfl
                  have hcz38_4 : wc.cell? ⟨gb123, 4, none⟩ = some (.string a1_4) := (blk_cell BK123.out 4).trans rfl
                  have hcz38_5 : wc.cell? ⟨gb123, 5, none⟩ = some (.int .i64 a1_5) := (blk_cell BK123.out 5).trans rfl
                  have hcz38_6 : wc.cell? ⟨gb123, 6, none⟩ = some (.int .i64 a1_6) := (blk_cell BK123.out 6).trans rfl
                  have hcz38_7 : wc.cell? ⟨gb123, 7, none⟩ = some (.int .i64 a1_7) := (blk_cell BK123.out 7).trans rfl
                  have hfz38_0 := blk_frozen BK123.out 0
                  have hfz38_1 := blk_frozen BK123.out 1
                  have hfz38_2 := blk_frozen BK123.out 2
                  have hfz38_3 := blk_frozen BK123.out 3
                  have hfz38_4 := blk_frozen BK123.out 4
                  have hfz38_5 := blk_frozen BK123.out 5
                  have hfz38_6 := blk_frozen BK123.out 6
                  have hfz38_7 := blk_frozen BK123.out 7
                  go_wp2_with (first | ((with_reducible refine gate_callee (f := 63) rfl ?_); refine goesL_ (some 35) rfl rfl Tryd.func63 (by kernel_rfl) rfl #[.agg #[.int .i64 a1_0, .bool a1_1, .int .i64 a1_2, .int .i64 a1_3, .string a1_4, .int .i64 a1_5, .int .i64 a1_6, .int .i64 a1_7]] rfl (by (try simp only [List.map_toArray, List.map_cons, List.map_nil]); first | done | rfl | (simp only [List.length_drop, List.length_take]; rfl)) ?_; (with_reducible refine (arith_asReal.calls a1_0 a1_1 a1_2 a1_3 a1_4 a1_5 a1_6 a1_7 t134 t135 _ A26.out).mono ?_); rintro e w39 ⟨rfl, hb⟩; refine ⟨_, rfl, ?_⟩; have n0_ := Aside0.mk (blk_below (g := gb123) (o := .cells #[.int .i64 a1_0, .bool a1_1, .int .i64 a1_2, .int .i64 a1_3, .string a1_4, .int .i64 a1_5, .int .i64 a1_6, .int .i64 a1_7] 38 (0, 0)) (by (with_reducible repeat (first | refine blk_drewN ?_ _ | refine blk_drew ?_ | refine blk_alloc ?_ _)); exact BK123.out) hb); have n1_ := Aside0.mk (blk_below (g := gb124) (o := .cells #[.int .i64 0, .bool false, .int .i64 0, .int .i64 0, .string (⟨#[]⟩ : ByteArray), .int .i64 0, .int .i64 0, .int .i64 0] 38 (0, 0)) (by (with_reducible repeat (first | refine blk_drewN ?_ _ | refine blk_drew ?_ | refine blk_alloc ?_ _)); exact BK124.out) hb); have n2_ := Aside0.mk (below_step (by repeat (first | (with_reducible first | exact HB.out | apply below_alloc | apply pw_below_drewN | apply below_drew1 | refine below_set ?_ GE123.out | refine below_set ?_ GE124.out) | exact HB.out)) hb); clear BK123; clear BK124; clear HB; have BK123 := n0_; have BK124 := n1_; have HB := n2_; clear n0_ n1_ n2_; (try clear hb); (try clear hb2); (try clear hk); (try clear hi)) | ((with_reducible refine gate_callee (f := 64) rfl ?_); refine goesL_ (some 44) rfl rfl Tryd.func64 (by kernel_rfl) rfl #[.int .i64 0, .int .i64 t134] rfl (by (try simp only [List.map_toArray, List.map_cons, List.map_nil]); first | done | rfl | (simp only [List.length_drop, List.length_take]; rfl)) ?_; (with_reducible refine (fix_Sub.calls kj12 0 t134 t136 t137 _ A28.out).mono ?_); rintro e w40 ⟨rfl, hb⟩; refine ⟨_, rfl, ?_⟩; have n0_ := Aside0.mk (blk_below (g := gb123) (o := .cells #[.int .i64 a1_0, .bool a1_1, .int .i64 a1_2, .int .i64 a1_3, .string a1_4, .int .i64 a1_5, .int .i64 a1_6, .int .i64 a1_7] 38 (0, 0)) (by (with_reducible repeat (first | refine blk_drewN ?_ _ | refine blk_drew ?_ | refine blk_alloc ?_ _)); exact BK123.out) hb); have n1_ := Aside0.mk (blk_below (g := gb124) (o := .cells #[.int .i64 0, .bool false, .int .i64 0, .int .i64 0, .string (⟨#[]⟩ : ByteArray), .int .i64 0, .int .i64 0, .int .i64 0] 38 (0, 0)) (by (with_reducible repeat (first | refine blk_drewN ?_ _ | refine blk_drew ?_ | refine blk_alloc ?_ _)); exact BK124.out) hb); have n2_ := Aside0.mk (below_step (by repeat (first | (with_reducible first | exact HB.out | apply below_alloc | apply pw_below_drewN | apply below_drew1 | refine below_set ?_ GE123.out | refine below_set ?_ GE124.out) | exact HB.out)) hb); clear BK123; clear BK124; clear HB; have BK123 := n0_; have BK124 := n1_; have HB := n2_; clear n0_ n1_ n2_; (try clear hb); (try clear hb2); (try clear hk); (try clear hi); obtain ⟨hcz41_0, hcz41_1, hcz41_2, hcz41_3, hcz41_4, hcz41_5, hcz41_6, hcz41_7⟩ := pc8 BK124.out; obtain ⟨hfz41_0, hfz41_1, hfz41_2, hfz41_3, hfz41_4, hfz41_5, hfz41_6, hfz41_7⟩ := pf8 BK124.out))
                  refine bodyPost_ret (results_ct rfl _ _ gb124 38 #[.int .i64 0, .bool false, .int .i64 0, .int .i64 0, .string (⟨#[]⟩ : ByteArray), .int .i64 0, .int .i64 0, .int .i64 0] (0, 0) _ rfl (by (with_reducible repeat (first | refine blk_drewN ?_ _ | refine blk_drew ?_ | refine blk_alloc ?_ _)); refine blk_put (cs := #[.int .i64 0, .bool false, .int .i64 0, .int .i64 0, .string (⟨#[]⟩ : ByteArray), .int .i64 0, .int .i64 0, .int .i64 0]) ?_ 7 _ rfl; (with_reducible repeat (first | refine blk_drewN ?_ _ | refine blk_drew ?_ | refine blk_alloc ?_ _)); refine blk_put (cs := #[.int .i64 0, .bool false, .int .i64 0, .int .i64 0, .string (⟨#[]⟩ : ByteArray), .int .i64 0, .int .i64 0, .int .i64 0]) ?_ 6 _ rfl; (with_reducible repeat (first | refine blk_drewN ?_ _ | refine blk_drew ?_ | refine blk_alloc ?_ _)); refine blk_put (cs := #[.int .i64 0, .bool false, .int .i64 0, .int .i64 0, .string (⟨#[]⟩ : ByteArray), .int .i64 0, .int .i64 0, .int .i64 0]) ?_ 5 _ rfl; (with_reducible repeat (first | refine blk_drewN ?_ _ | refine blk_drew ?_ | refine blk_alloc ?_ _)); refine blk_put (cs := #[.int .i64 0, .bool false, .int .i64 0, .int .i64 0, .string (⟨#[]⟩ : ByteArray), .int .i64 0, .int .i64 0, .int .i64 0]) ?_ 4 _ rfl; (with_reducible repeat (first | refine blk_drewN ?_ _ | refine blk_drew ?_ | refine blk_alloc ?_ _)); refine blk_put (cs := #[.int .i64 0, .bool false, .int .i64 0, .int .i64 0, .string (⟨#[]⟩ : ByteArray), .int .i64 0, .int .i64 0, .int .i64 0]) ?_ 3 _ rfl; (with_reducible repeat (first | refine blk_drewN ?_ _ | refine blk_drew ?_ | refine blk_alloc ?_ _)); refine blk_put (cs := #[.int .i64 0, .bool false, .int .i64 0, .int .i64 0, .string (⟨#[]⟩ : ByteArray), .int .i64 0, .int .i64 0, .int .i64 0]) ?_ 2 _ rfl; (with_reducible repeat (first | refine blk_drewN ?_ _ | refine blk_drew ?_ | refine blk_alloc ?_ _)); refine blk_put (cs := #[.int .i64 0, .bool false, .int .i64 0, .int .i64 0, .string (⟨#[]⟩ : ByteArray), .int .i64 0, .int .i64 0, .int .i64 0]) ?_ 1 _ rfl; (with_reducible repeat (first | refine blk_drewN ?_ _ | refine blk_drew ?_ | refine blk_alloc ?_ _)); refine blk_put (cs := #[.int .i64 0, .bool false, .int .i64 0, .int .i64 0, .string (⟨#[]⟩ : ByteArray), .int .i64 0, .int .i64 0, .int .i64 0]) ?_ 0 _ rfl; (with_reducible repeat (first | refine blk_drewN ?_ _ | refine blk_drew ?_ | refine blk_alloc ?_ _)); exact BK124.out) Tryd.underlying38 rfl (by kernel_rfl)) rfl ?_
                  exact ⟨by first | rfl | (simp [errW_none, errW_some] <;> rfl) | (simp [*, errW_none, errW_some] <;> rfl), by repeat (first | (with_reducible first | exact HB.out | apply below_alloc | apply pw_below_drewN | apply below_drew1 | refine below_set ?_ GE123.out | refine below_set ?_ GE124.out) | exact HB.out)⟩
              · rw [if_neg c27] at H
                have c27b0 : (t135 == 0) = false := beq_eq_false_iff_ne.mpr c27
                have c27b1 : (t135 != 0) = true := bne_iff_ne.mpr c27
                simp only [Option.some.injEq, Prod.mk.injEq] at H
                obtain ⟨rfl, rfl, rfl, rfl, rfl, rfl, rfl, rfl, rfl⟩ := H
                have hnb42 := NB123_124.out
                have hnc42 := NB124_123.out
                have hcz43_0 : wc.cell? ⟨gb123, 0, none⟩ = some (.int .i64 a1_0) := (blk_cell BK123.out 0).trans rfl
                have hcz43_1 : wc.cell? ⟨gb123, 1, none⟩ = some (.bool a1_1) := (blk_cell BK123.out 1).trans rfl
                have hcz43_2 : wc.cell? ⟨gb123, 2, none⟩ = some (.int .i64 a1_2) := (blk_cell BK123.out 2).trans rfl
                have hcz43_3 : wc.cell? ⟨gb123, 3, none⟩ = some (.int .i64 a1_3) := (blk_cell BK123.out 3).trans rfl
                have hcz43_4 : wc.cell? ⟨gb123, 4, none⟩ = some (.string a1_4) := (blk_cell BK123.out 4).trans rfl
                have hcz43_5 : wc.cell? ⟨gb123, 5, none⟩ = some (.int .i64 a1_5) := (blk_cell BK123.out 5).trans rfl
                have hcz43_6 : wc.cell? ⟨gb123, 6, none⟩ = some (.int .i64 a1_6) := (blk_cell BK123.out 6).trans rfl
                have hcz43_7 : wc.cell? ⟨gb123, 7, none⟩ = some (.int .i64 a1_7) := (blk_cell BK123.out 7).trans rfl
                have hfz43_0 := blk_frozen BK123.out 0
                have hfz43_1 := blk_frozen BK123.out 1
                have hfz43_2 := blk_frozen BK123.out 2
                have hfz43_3 := blk_frozen BK123.out 3
                have hfz43_4 := blk_frozen BK123.out 4
                have hfz43_5 := blk_frozen BK123.out 5
                have hfz43_6 := blk_frozen BK123.out 6
                have hfz43_7 := blk_frozen BK123.out 7
                go_wp2_with (first | ((with_reducible refine gate_callee (f := 63) rfl ?_); refine goesL_ (some 35) rfl rfl Tryd.func63 (by kernel_rfl) rfl #[.agg #[.int .i64 a1_0, .bool a1_1, .int .i64 a1_2, .int .i64 a1_3, .string a1_4, .int .i64 a1_5, .int .i64 a1_6, .int .i64 a1_7]] rfl (by (try simp only [List.map_toArray, List.map_cons, List.map_nil]); first | done | rfl | (simp only [List.length_drop, List.length_take]; rfl)) ?_; (with_reducible refine (arith_asReal.calls a1_0 a1_1 a1_2 a1_3 a1_4 a1_5 a1_6 a1_7 t134 t135 _ A26.out).mono ?_); rintro e w44 ⟨rfl, hb⟩; refine ⟨_, rfl, ?_⟩; have n0_ := Aside0.mk (blk_below (g := gb123) (o := .cells #[.int .i64 a1_0, .bool a1_1, .int .i64 a1_2, .int .i64 a1_3, .string a1_4, .int .i64 a1_5, .int .i64 a1_6, .int .i64 a1_7] 38 (0, 0)) (by (with_reducible repeat (first | refine blk_drewN ?_ _ | refine blk_drew ?_ | refine blk_alloc ?_ _)); exact BK123.out) hb); have n1_ := Aside0.mk (blk_below (g := gb124) (o := .cells #[.int .i64 0, .bool false, .int .i64 0, .int .i64 0, .string (⟨#[]⟩ : ByteArray), .int .i64 0, .int .i64 0, .int .i64 0] 38 (0, 0)) (by (with_reducible repeat (first | refine blk_drewN ?_ _ | refine blk_drew ?_ | refine blk_alloc ?_ _)); exact BK124.out) hb); have n2_ := Aside0.mk (below_step (by repeat (first | (with_reducible first | exact HB.out | apply below_alloc | apply pw_below_drewN | apply below_drew1 | refine below_set ?_ GE123.out | refine below_set ?_ GE124.out) | exact HB.out)) hb); clear BK123; clear BK124; clear HB; have BK123 := n0_; have BK124 := n1_; have HB := n2_; clear n0_ n1_ n2_; (try clear hb); (try clear hb2); (try clear hk); (try clear hi); obtain ⟨hcz45_0, hcz45_1, hcz45_2, hcz45_3, hcz45_4, hcz45_5, hcz45_6, hcz45_7⟩ := pc8 BK124.out; obtain ⟨hfz45_0, hfz45_1, hfz45_2, hfz45_3, hfz45_4, hfz45_5, hfz45_6, hfz45_7⟩ := pf8 BK124.out))
                refine bodyPost_ret (results_ct rfl _ _ gb124 38 #[.int .i64 0, .bool false, .int .i64 0, .int .i64 0, .string (⟨#[]⟩ : ByteArray), .int .i64 0, .int .i64 0, .int .i64 0] (0, 0) _ rfl (by (with_reducible repeat (first | refine blk_drewN ?_ _ | refine blk_drew ?_ | refine blk_alloc ?_ _)); refine blk_put (cs := #[.int .i64 0, .bool false, .int .i64 0, .int .i64 0, .string (⟨#[]⟩ : ByteArray), .int .i64 0, .int .i64 0, .int .i64 0]) ?_ 7 _ rfl; (with_reducible repeat (first | refine blk_drewN ?_ _ | refine blk_drew ?_ | refine blk_alloc ?_ _)); refine blk_put (cs := #[.int .i64 0, .bool false, .int .i64 0, .int .i64 0, .string (⟨#[]⟩ : ByteArray), .int .i64 0, .int .i64 0, .int .i64 0]) ?_ 6 _ rfl; (with_reducible repeat (first | refine blk_drewN ?_ _ | refine blk_drew ?_ | refine blk_alloc ?_ _)); refine blk_put (cs := #[.int .i64 0, .bool false, .int .i64 0, .int .i64 0, .string (⟨#[]⟩ : ByteArray), .int .i64 0, .int .i64 0, .int .i64 0]) ?_ 5 _ rfl; (with_reducible repeat (first | refine blk_drewN ?_ _ | refine blk_drew ?_ | refine blk_alloc ?_ _)); refine blk_put (cs := #[.int .i64 0, .bool false, .int .i64 0, .int .i64 0, .string (⟨#[]⟩ : ByteArray), .int .i64 0, .int .i64 0, .int .i64 0]) ?_ 4 _ rfl; (with_reducible repeat (first | refine blk_drewN ?_ _ | refine blk_drew ?_ | refine blk_alloc ?_ _)); refine blk_put (cs := #[.int .i64 0, .bool false, .int .i64 0, .int .i64 0, .string (⟨#[]⟩ : ByteArray), .int .i64 0, .int .i64 0, .int .i64 0]) ?_ 3 _ rfl; (with_reducible repeat (first | refine blk_drewN ?_ _ | refine blk_drew ?_ | refine blk_alloc ?_ _)); refine blk_put (cs := #[.int .i64 0, .bool false, .int .i64 0, .int .i64 0, .string (⟨#[]⟩ : ByteArray), .int .i64 0, .int .i64 0, .int .i64 0]) ?_ 2 _ rfl; (with_reducible repeat (first | refine blk_drewN ?_ _ | refine blk_drew ?_ | refine blk_alloc ?_ _)); refine blk_put (cs := #[.int .i64 0, .bool false, .int .i64 0, .int .i64 0, .string (⟨#[]⟩ : ByteArray), .int .i64 0, .int .i64 0, .int .i64 0]) ?_ 1 _ rfl; (with_reducible repeat (first | refine blk_drewN ?_ _ | refine blk_drew ?_ | refine blk_alloc ?_ _)); refine blk_put (cs := #[.int .i64 0, .bool false, .int .i64 0, .int .i64 0, .string (⟨#[]⟩ : ByteArray), .int .i64 0, .int .i64 0, .int .i64 0]) ?_ 0 _ rfl; (with_reducible repeat (first | refine blk_drewN ?_ _ | refine blk_drew ?_ | refine blk_alloc ?_ _)); exact BK124.out) Tryd.underlying38 rfl (by kernel_rfl)) rfl ?_
                exact ⟨by first | rfl | (simp [errW_none, errW_some] <;> rfl) | (simp [*, errW_none, errW_some] <;> rfl), by repeat (first | (with_reducible first | exact HB.out | apply below_alloc | apply pw_below_drewN | apply below_drew1 | refine below_set ?_ GE123.out | refine below_set ?_ GE124.out) | exact HB.out)⟩
mutual
def fix_Sqrt.j0 : Nat → Int → Bool → Option (Int × Int)
  | 0, _, _ => none
  | k + 1, x0, x13 => if x13 = true then (some (0, 11)) else (fix_Sqrt.l0 k (wrap64 (x0 * 65536)) 0 16777216)
def fix_Sqrt.l0 : Nat → Int → Int → Int → Option (Int × Int)
  | 0, _, _, _ => none
  | k + 1, x4, x5, x6 => if x6 > 0 then (if (wrap64 ((wrap64 (x5 + x6)) * (wrap64 (x5 + x6)))) ≤ x4 then (fix_Sqrt.l0 k x4 (wrap64 (x5 + x6)) (x6 / 2)) else (fix_Sqrt.l0 k x4 x5 (x6 / 2))) else (if (wrap64 (x4 - (wrap64 (x5 * x5)))) > x5 then (some (wrap64 (x5 + 1), 0)) else (some (x5, 0)))
end
def fix_Sqrt.f (k : Nat) (a0 : Int) : Option (Int × Int) := (fix_Fits.f a0).bind fun t146 => (if t146 = true then (fix_Sqrt.j0 k a0 (decide (a0 < 0))) else (fix_Sqrt.j0 k a0 true))
theorem fix_Sqrt.mono_l : ∀ k, (∀ y0 y1, LeO (fix_Sqrt.j0 k y0 y1) (fix_Sqrt.j0 (k + 1) y0 y1)) ∧ (∀ y0 y1 y2, LeO (fix_Sqrt.l0 k y0 y1 y2) (fix_Sqrt.l0 (k + 1) y0 y1 y2))
  | 0 => ⟨fun _ _ r h => by simp [fix_Sqrt.j0] at h, fun _ _ _ r h => by simp [fix_Sqrt.l0] at h⟩
  | k + 1 => by
    obtain ⟨ih0, ih1⟩ := fix_Sqrt.mono_l k
    refine ⟨?_, ?_⟩
    · intro y0 y1
      unfold fix_Sqrt.j0
      repeat' first
      | (with_reducible exact ih0 _ _)
      | (with_reducible exact ih1 _ _ _)
      | (with_reducible exact LeO.refl _)
      | (with_reducible exact LeO.none _)
      | (with_reducible refine LeO.ite ?_ ?_)
      | (with_reducible refine LeO.bind ?_ (fun _ => ?_))
      | exact ih0 _ _
      | exact ih1 _ _ _
      | exact LeO.none _
      | refine LeO.ite ?_ ?_
      | refine LeO.bind ?_ (fun _ => ?_)
    · intro y0 y1 y2
      unfold fix_Sqrt.l0
      repeat' first
      | (with_reducible exact ih0 _ _)
      | (with_reducible exact ih1 _ _ _)
      | (with_reducible exact LeO.refl _)
      | (with_reducible exact LeO.none _)
      | (with_reducible refine LeO.ite ?_ ?_)
      | (with_reducible refine LeO.bind ?_ (fun _ => ?_))
      | exact ih0 _ _
      | exact ih1 _ _ _
      | exact LeO.none _
      | refine LeO.ite ?_ ?_
      | refine LeO.bind ?_ (fun _ => ?_)
theorem fix_Sqrt.mono : ∀ a0 k, LeO (fix_Sqrt.f k a0) (fix_Sqrt.f (k + 1) a0) := by
  intro a0 k
  obtain ⟨ih0, ih1⟩ := fix_Sqrt.mono_l k
  unfold fix_Sqrt.f
  repeat' first
      | (with_reducible exact ih0 _ _)
      | (with_reducible exact ih1 _ _ _)
      | (with_reducible exact LeO.refl _)
      | (with_reducible exact LeO.none _)
      | (with_reducible refine LeO.ite ?_ ?_)
      | (with_reducible refine LeO.bind ?_ (fun _ => ?_))
      | exact ih0 _ _
      | exact ih1 _ _ _
      | exact LeO.none _
      | refine LeO.ite ?_ ?_
      | refine LeO.bind ?_ (fun _ => ?_)
set_option maxHeartbeats 8000000 in
set_option maxRecDepth 100000 in
theorem fix_Sqrt.calls (k : Nat) (a0 : Int) (r1 : Int) (r2 : Int) (w : World) (h : fix_Sqrt.f k a0 = some (r1, r2)) :
    Calls Tryd.prog 66 #[.int .i64 a0] w fun e w' => e = .returned (.tuple #[.int .i64 r1, .int .i64 r2]) ∧ Drawn0 w w' := by
  have H : ((fix_Fits.f a0).bind fun t146 => (if t146 = true then (fix_Sqrt.j0 k a0 (decide (a0 < 0))) else (fix_Sqrt.j0 k a0 true))) = some (r1, r2) := h
  clear h
  have HC2 := Aside0.mk H
  clear H
  go_enter Tryd.func66, Tryd.ntmps66
  go_upto_region 1 with (fail)
  go_cut [13] (fun v13 wc => ∃ (kq : Nat) (x13_1 : Bool), v13 = .bool x13_1 ∧ Aside0 (fix_Sqrt.j0 kq a0 x13_1 = some (r1, r2)) ∧ Aside0 (kq ≤ k) ∧ Drawn0 w wc)
  case first =>
    have H := HC2.out
    clear HC2
    replace H := Option.bind_eq_some_iff.mp H
    obtain ⟨t146, A30, H⟩ := H
    replace H : (if t146 = true then (fix_Sqrt.j0 k a0 (decide (a0 < 0))) else (fix_Sqrt.j0 k a0 true)) = some (r1, r2) := H
    have A3 := Aside0.mk A30
    clear A30
    by_cases c4 : t146 = true
    · subst c4
      have H1 : (fix_Sqrt.j0 k a0 (decide (a0 < 0))) = some (r1, r2) := by rw [if_pos rfl] at H; exact H
      clear H
      have H := H1
      clear H1
      have H' := Aside0.mk H
      clear H
      go_wp2_with (first | ((with_reducible refine gate_callee (f := 62) rfl ?_); refine goesL_ (some 8) rfl rfl Tryd.func62 (by kernel_rfl) rfl #[.int .i64 a0] rfl (by (try simp only [List.map_toArray, List.map_cons, List.map_nil]); first | done | rfl | (simp only [List.length_drop, List.length_take]; rfl)) ?_; (with_reducible refine (fix_Fits.calls a0 true _ A3.out).mono ?_); rintro e w' ⟨rfl, ⟨nd, rfl⟩⟩; refine ⟨_, rfl, ?_⟩))
      go_meet
      case rel => exact ⟨_, (decide (a0 < 0)), (by first | rfl | (simp; done) | (simp [*]; done)), H', ⟨by first | omega | exact Nat.le_refl _⟩, by repeat (first | exact Drawn0.refl _ | apply Drawn0.step)⟩
    · replace c4 := Bool.eq_false_iff.mpr c4
      subst c4
      have H1 : (fix_Sqrt.j0 k a0 true) = some (r1, r2) := by rw [if_neg (show ¬ (false = true) by decide)] at H; exact H
      clear H
      have H := H1
      clear H1
      have H' := Aside0.mk H
      clear H
      go_wp2_with (first | ((with_reducible refine gate_callee (f := 62) rfl ?_); refine goesL_ (some 8) rfl rfl Tryd.func62 (by kernel_rfl) rfl #[.int .i64 a0] rfl (by (try simp only [List.map_toArray, List.map_cons, List.map_nil]); first | done | rfl | (simp only [List.length_drop, List.length_take]; rfl)) ?_; (with_reducible refine (fix_Fits.calls a0 false _ A3.out).mono ?_); rintro e w' ⟨rfl, ⟨nd, rfl⟩⟩; refine ⟨_, rfl, ?_⟩))
      go_meet
      case rel => exact ⟨_, (true), (by first | rfl | (simp; done) | (simp [*]; done)), H', ⟨by first | omega | exact Nat.le_refl _⟩, by repeat (first | exact Drawn0.refl _ | apply Drawn0.step)⟩
  case rest =>
    clear HC2
    try clear p2
    try clear c4
    obtain ⟨kq, x13_1, rfl, HA, HJ1, ⟨mc1, rfl⟩⟩ := hcut
    cases kq with
    | zero => exact absurd HA.out (by simp [fix_Sqrt.j0])
    | succ kj1 =>
      have H := HA.out
      clear HA
      simp only [fix_Sqrt.j0] at H
      by_cases c5 : x13_1 = true
      · subst c5
        have H1 : (some (0, 11)) = some (r1, r2) := by rw [if_pos rfl] at H; exact H
        clear H
        have H := H1
        clear H1
        simp only [Option.some.injEq, Prod.mk.injEq] at H
        obtain ⟨rfl, rfl⟩ := H
        go_wp2
        go_ret2
        exact ⟨by first | rfl | (simp; done) | (simp [*]; done), by repeat (first | exact Drawn0.refl _ | apply Drawn0.step)⟩
      · replace c5 := Bool.eq_false_iff.mpr c5
        subst c5
        have H1 : (fix_Sqrt.l0 kj1 (wrap64 (a0 * 65536)) 0 16777216) = some (r1, r2) := by rw [if_neg (show ¬ (false = true) by decide)] at H; exact H
        clear H
        have H := H1
        clear H1
        have H' := Aside0.mk H
        clear H
        go_wp2
        go_loopg [5, 6] kj1 (fun kq v5 v6 w' => ∃ (x5_2 : Int) (x6_2 : Int), v5 = .int .i64 x5_2 ∧ v6 = .int .i64 x6_2 ∧ Aside0 (fix_Sqrt.l0 kq (wrap64 (a0 * 65536)) x5_2 x6_2 = some (r1, r2)) ∧ Aside0 (kq ≤ kj1) ∧ Drawn0 w w')
        case atStart => exact ⟨(0), (16777216), (by first | rfl | (simp; done) | (simp [*]; done)), (by first | rfl | (simp; done) | (simp [*]; done)), H', ⟨Nat.le_refl _⟩, by repeat (first | exact Drawn0.refl _ | apply Drawn0.step)⟩
        case round =>
          clear H'
          try clear c1
          try clear p2
          try clear c4
          try clear c5
          try clear p2
          obtain ⟨x5_2, x6_2, rfl, rfl, HA, HK2, ⟨m2, rfl⟩⟩ := hrel
          cases gk with
          | zero => exact absurd HA.out (by simp [fix_Sqrt.l0])
          | succ k2 =>
            have H := HA.out
            clear HA
            simp only [fix_Sqrt.l0] at H
            by_cases c6 : x6_2 > 0
            · rw [if_pos c6] at H
              have c6b0 : decide (0 < x6_2) = true := decide_eq_true c6
              clear c6
              by_cases c7 : (wrap64 ((wrap64 (x5_2 + x6_2)) * (wrap64 (x5_2 + x6_2)))) ≤ (wrap64 (a0 * 65536))
              · rw [if_pos c7] at H
                have c7b0 : decide ((wrap64 ((wrap64 (x5_2 + x6_2)) * (wrap64 (x5_2 + x6_2)))) ≤ (wrap64 (a0 * 65536))) = true := decide_eq_true c7
                clear c7
                have H' := Aside0.mk H
                clear H
                go_wp2
                go_roundg k2
                case measure => have := HJ1.out; have := HK2.out; omega
                case rel => exact ⟨(wrap64 (x5_2 + x6_2)), (x6_2 / 2), (by first | rfl | (simp; done) | (simp [*]; done)), (by first | rfl | (simp; done) | (simp [*]; done)), H', ⟨by have := HJ1.out; have := HK2.out; omega⟩, by repeat (first | exact Drawn0.refl _ | apply Drawn0.step)⟩
              · rw [if_neg c7] at H
                have c7b0 : decide ((wrap64 ((wrap64 (x5_2 + x6_2)) * (wrap64 (x5_2 + x6_2)))) ≤ (wrap64 (a0 * 65536))) = false := decide_eq_false c7
                clear c7
                have H' := Aside0.mk H
                clear H
                go_wp2
                go_roundg k2
                case measure => have := HJ1.out; have := HK2.out; omega
                case rel => exact ⟨(x5_2), (x6_2 / 2), (by first | rfl | (simp; done) | (simp [*]; done)), (by first | rfl | (simp; done) | (simp [*]; done)), H', ⟨by have := HJ1.out; have := HK2.out; omega⟩, by repeat (first | exact Drawn0.refl _ | apply Drawn0.step)⟩
            · rw [if_neg c6] at H
              have c6b0 : decide (0 < x6_2) = false := decide_eq_false c6
              clear c6
              by_cases c8 : (wrap64 ((wrap64 (a0 * 65536)) - (wrap64 (x5_2 * x5_2)))) > x5_2
              · rw [if_pos c8] at H
                have c8b0 : decide (x5_2 < (wrap64 ((wrap64 (a0 * 65536)) - (wrap64 (x5_2 * x5_2))))) = true := decide_eq_true c8
                clear c8
                simp only [Option.some.injEq, Prod.mk.injEq] at H
                obtain ⟨rfl, rfl⟩ := H
                go_wp2
                go_ret2
                exact ⟨by first | rfl | (simp; done) | (simp [*]; done), by repeat (first | exact Drawn0.refl _ | apply Drawn0.step)⟩
              · rw [if_neg c8] at H
                have c8b0 : decide (x5_2 < (wrap64 ((wrap64 (a0 * 65536)) - (wrap64 (x5_2 * x5_2))))) = false := decide_eq_false c8
                clear c8
                simp only [Option.some.injEq, Prod.mk.injEq] at H
                obtain ⟨rfl, rfl⟩ := H
                go_wp2
                go_ret2
                exact ⟨by first | rfl | (simp; done) | (simp [*]; done), by repeat (first | exact Drawn0.refl _ | apply Drawn0.step)⟩
def fix_Ceiling.f (a0 : Int) : Option (Int × Int) := (fix_Fits.f a0).bind fun t162 => (if t162 = true then ((fix_within.f (Go.bits .andNot .i64 (wrap64 ((wrap64 (a0 + 65536)) - 1)) 65535)).bind fun bt163 => (some (bt163.1, bt163.2))) else (some (0, 11)))
set_option maxHeartbeats 8000000 in
set_option maxRecDepth 100000 in
theorem fix_Ceiling.calls (a0 : Int) (r1 : Int) (r2 : Int) (w : World) (h : fix_Ceiling.f a0 = some (r1, r2)) :
    Calls Tryd.prog 68 #[.int .i64 a0] w fun e w' => e = .returned (.tuple #[.int .i64 r1, .int .i64 r2]) ∧ Drawn0 w w' := by
  have H : ((fix_Fits.f a0).bind fun t162 => (if t162 = true then ((fix_within.f (Go.bits .andNot .i64 (wrap64 ((wrap64 (a0 + 65536)) - 1)) 65535)).bind fun bt163 => (some (bt163.1, bt163.2))) else (some (0, 11)))) = some (r1, r2) := h
  clear h
  replace H := Option.bind_eq_some_iff.mp H
  obtain ⟨t162, A20, H⟩ := H
  replace H : (if t162 = true then ((fix_within.f (Go.bits .andNot .i64 (wrap64 ((wrap64 (a0 + 65536)) - 1)) 65535)).bind fun bt163 => (some (bt163.1, bt163.2))) else (some (0, 11))) = some (r1, r2) := H
  have A2 := Aside0.mk A20
  clear A20
  by_cases c3 : t162 = true
  · subst c3
    have H1 : ((fix_within.f (Go.bits .andNot .i64 (wrap64 ((wrap64 (a0 + 65536)) - 1)) 65535)).bind fun bt163 => (some (bt163.1, bt163.2))) = some (r1, r2) := by rw [if_pos rfl] at H; exact H
    clear H
    have H := H1
    clear H1
    replace H := Option.bind_eq_some_iff.mp H
    obtain ⟨⟨t163, t164⟩, A40, H⟩ := H
    replace H : (some (t163, t164)) = some (r1, r2) := H
    have A4 := Aside0.mk A40
    clear A40
    simp only [Option.some.injEq, Prod.mk.injEq] at H
    obtain ⟨rfl, rfl⟩ := H
    go_enter Tryd.func68, Tryd.ntmps68
    go_wp2_with (first | ((with_reducible refine gate_callee (f := 62) rfl ?_); refine goesL_ (some 5) rfl rfl Tryd.func62 (by kernel_rfl) rfl #[.int .i64 a0] rfl (by (try simp only [List.map_toArray, List.map_cons, List.map_nil]); first | done | rfl | (simp only [List.length_drop, List.length_take]; rfl)) ?_; (with_reducible refine (fix_Fits.calls a0 true _ A2.out).mono ?_); rintro e w' ⟨rfl, ⟨nd, rfl⟩⟩; refine ⟨_, rfl, ?_⟩) | ((with_reducible refine gate_callee (f := 80) rfl ?_); refine goesL_ (some 11) rfl rfl Tryd.func80 (by kernel_rfl) rfl #[.int .i64 (Go.bits .andNot .i64 (wrap64 ((wrap64 (a0 + 65536)) - 1)) 65535)] rfl (by (try simp only [List.map_toArray, List.map_cons, List.map_nil]); first | done | rfl | (simp only [List.length_drop, List.length_take]; rfl)) ?_; (with_reducible refine (fix_within.calls (Go.bits .andNot .i64 (wrap64 ((wrap64 (a0 + 65536)) - 1)) 65535) t163 t164 _ A4.out).mono ?_); rintro e w' ⟨rfl, ⟨nd, rfl⟩⟩; refine ⟨_, rfl, ?_⟩))
    go_ret2
    exact ⟨by first | rfl | (simp; done) | (simp [*]; done), by repeat (first | exact Drawn0.refl _ | apply Drawn0.step)⟩
  · replace c3 := Bool.eq_false_iff.mpr c3
    subst c3
    have H1 : (some (0, 11)) = some (r1, r2) := by rw [if_neg (show ¬ (false = true) by decide)] at H; exact H
    clear H
    have H := H1
    clear H1
    simp only [Option.some.injEq, Prod.mk.injEq] at H
    obtain ⟨rfl, rfl⟩ := H
    go_enter Tryd.func68, Tryd.ntmps68
    go_wp2_with (first | ((with_reducible refine gate_callee (f := 62) rfl ?_); refine goesL_ (some 5) rfl rfl Tryd.func62 (by kernel_rfl) rfl #[.int .i64 a0] rfl (by (try simp only [List.map_toArray, List.map_cons, List.map_nil]); first | done | rfl | (simp only [List.length_drop, List.length_take]; rfl)) ?_; (with_reducible refine (fix_Fits.calls a0 false _ A2.out).mono ?_); rintro e w' ⟨rfl, ⟨nd, rfl⟩⟩; refine ⟨_, rfl, ?_⟩))
    go_ret2
    exact ⟨by first | rfl | (simp; done) | (simp [*]; done), by repeat (first | exact Drawn0.refl _ | apply Drawn0.step)⟩
end Go.Proofs.YtmbnlklinmmkdaaDoor.PArithDoes
