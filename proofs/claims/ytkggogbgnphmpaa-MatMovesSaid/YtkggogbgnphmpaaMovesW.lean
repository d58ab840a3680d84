/- The walk of the law MatMoves. -/
import Derived.Test.YtkggogbgnphmpaaEq
import Derived.Test.YtkggogbgnphmpaaMatB
import Derived.Test.YtkggogbgnphmpaaSem2
import Derived.Deep.DrawnRows
import Derived.Deep.DeepCutAuto
import Derived.IntWalk
import Derived.Outline
namespace Go.Proofs.Ytkggogbgnphmpaa.Moves
open Go.RowKit Go.Proofs.YtkggogbgnphmpaaW.PrintWords Go.Proofs.YtkggogbgnphmpaaW.PrintLast Go.Proofs.YtkggogbgnphmpaaW.PrintMore
open Go.Proofs.Ytkggogbgnphmpaa.Sem Go.Proofs.Ytkggogbgnphmpaa.Base Go.Proofs.Ytkggogbgnphmpaa.MatA Go.Proofs.Ytkggogbgnphmpaa.MatB
attribute [local go_sem ↓] Go.wp_at_zero Go.wp_at_succ

theorem small (p x : Int) (p1 : -32768 ≤ p) (p2 : p ≤ 32767) (x1 : -32768 ≤ x) (x2 : x ≤ 32767) : -1073741824 ≤ p * x ∧ p * x ≤ 1073741824 := by
  have h : (p * x).natAbs ≤ 32768 * 32768 := by
    rw [Int.natAbs_mul]; exact Nat.mul_le_mul (by omega) (by omega)
  omega

set_option maxHeartbeats 6400000 in
set_option maxRecDepth 100000 in
theorem walk (x y p q : Int) (x1 : -32768 ≤ x) (x2 : x ≤ 32767) (y1 : -32768 ≤ y) (y2 : y ≤ 32767) (p1 : -32768 ≤ p) (p2 : p ≤ 32767) (q1 : -32768 ≤ q) (q2 : q ≤ 32767) (w : World) :
    Calls Try.prog 4 #[.int .i16 x, .int .i16 y, .int .i16 p, .int .i16 q] w fun e w' => e = .returned (.bool true) ∧ Below w.heap.size w w' := by
  have vx : IntKind.i64.wrap x = x := IntWalk.i64_in _ (by omega)
  have vy : IntKind.i64.wrap y = y := IntWalk.i64_in _ (by omega)
  have fx : fitB x = true := fitB_true.2 (by omega)
  have fy : fitB y = true := fitB_true.2 (by omega)
  have fX : fitB (p * 65536) = true := fitB_true.2 (by omega)
  have fY : fitB (q * 65536) = true := fitB_true.2 (by omega)
  have px : -1073741824 ≤ p * x ∧ p * x ≤ 1073741824 := small p x p1 p2 x1 x2
  have qy : -1073741824 ≤ q * y ∧ q * y ≤ 1073741824 := small q y q1 q2 y1 y2
  have gx : fitB (p * x) = true := fitB_true.2 (by omega)
  have gy : fitB (q * y) = true := fitB_true.2 (by omega)
  obtain ⟨px1, px2⟩ := px
  obtain ⟨qy1, qy2⟩ := qy
  obtain ⟨u, hu⟩ : ∃ u, applyA 65536 0 0 65536 x y (p * 65536) (q * 65536) = u := ⟨_, rfl⟩
  have HU := Aside0.mk hu
  have HV := Aside0.mk (delta_id fX fY)
  have HT := Aside0.mk (apply_stretch fx fy fX fY gx gy)
  have HM := Aside0.mk (fun h1 h2 => hu.symm.trans (apply_move fx fy fX fY h1 h2))
  have FX := Aside0.mk gx
  have FY := Aside0.mk gy
  clear hu fx fy fX fY gx gy
  go_enter Try.func4, Try.ntmps4
  go_upto_region 2 with fail
  have h9 := Has.new w (pC (p * 65536) (q * 65536)) 24 rfl
  have hg := below_alloc (Below.refl w.heap.size w) (.cells (pC (p * 65536) (q * 65536)) 24)
  generalize w.alloc (.cells (pC (p * 65536) (q * 65536)) 24) = W2 at *
  have H9 := Aside0.mk h9
  have HG := Aside0.mk hg
  have gz := HG.out.size
  clear h9 hg
  have lH9 := H9.out.lt
  have nH9a : W2.heap.size ≠ w.heap.size := by omega
  have nH9b : W2.heap.size + 1 ≠ w.heap.size := by omega
  have nH9c : W2.heap.size + 1 + 1 ≠ w.heap.size := by omega
  have c0 : W2.cell? ⟨w.heap.size, 0, none⟩ = some (.int .i64 (p * 65536)) := H9.out.cell 0
  have c1 : W2.cell? ⟨w.heap.size, 1, none⟩ = some (.int .i64 (q * 65536)) := H9.out.cell 1
  go_cut [10, 11] (fun s10 s11 wc => ∃ b : Nat, s10 = .pointer (some ⟨b, 0, none⟩) ∧ s11 = .int .i64 u.2.2 ∧ Aside0 (Has wc b (pC u.1 u.2.1) 24 ∧ Has wc w.heap.size (pC (p * 65536) (q * 65536)) 24 ∧ Below w.heap.size w wc))
  case first =>
    go_region_held3 (fun w' => w'.cell? ⟨w.heap.size, 0, none⟩ = some (.int .i64 (p * 65536)) ∧ w'.cell? ⟨w.heap.size, 1, none⟩ = some (.int .i64 (q * 65536))) (first | exact ⟨by assumption, by assumption⟩ | go_keep)
      (first | (go_at_call 13; ((with_reducible refine (cTranslateX _ _ _).mono ?_); rintro e w1 ⟨rfl, rfl⟩)) | (go_at_call 8; ((with_reducible refine (cApply _ _ _ _ _ _ _ _ _).mono ?_); rintro e w1 ⟨rfl, hb1⟩; rw [HU.out]; have d0 : w1.cell? ⟨w.heap.size, 0, none⟩ = some (.int .i64 (p * 65536)) := (Has.below (by repeat (first | (with_reducible exact H9.out) | apply Has.alloc | apply Has.drewN | apply Has.drew)) hb1).cell 0; have d1 : w1.cell? ⟨w.heap.size, 1, none⟩ = some (.int .i64 (q * 65536)) := (Has.below (by repeat (first | (with_reducible exact H9.out) | apply Has.alloc | apply Has.drewN | apply Has.drew)) hb1).cell 1; have ay0 : W2.heap.size < _ → w1.cell? ⟨W2.heap.size, 0, none⟩ = _ := fun h => hb1.cell (p := ⟨W2.heap.size, 0, none⟩) h; have fy0 : W2.heap.size < _ → w1.frozen? ⟨W2.heap.size, 0, none⟩ = _ := fun h => hb1.frozen (p := ⟨W2.heap.size, 0, none⟩) h; have ay1 : W2.heap.size < _ → w1.cell? ⟨W2.heap.size, 1, none⟩ = _ := fun h => hb1.cell (p := ⟨W2.heap.size, 1, none⟩) h; have fy1 : W2.heap.size < _ → w1.frozen? ⟨W2.heap.size, 1, none⟩ = _ := fun h => hb1.frozen (p := ⟨W2.heap.size, 1, none⟩) h; have ax0 : W2.heap.size + 1 < _ → w1.cell? ⟨W2.heap.size + 1, 0, none⟩ = _ := fun h => hb1.cell (p := ⟨W2.heap.size + 1, 0, none⟩) h; have fx0 : W2.heap.size + 1 < _ → w1.frozen? ⟨W2.heap.size + 1, 0, none⟩ = _ := fun h => hb1.frozen (p := ⟨W2.heap.size + 1, 0, none⟩) h; have ax1 : W2.heap.size + 1 < _ → w1.cell? ⟨W2.heap.size + 1, 1, none⟩ = _ := fun h => hb1.cell (p := ⟨W2.heap.size + 1, 1, none⟩) h; have fx1 : W2.heap.size + 1 < _ → w1.frozen? ⟨W2.heap.size + 1, 1, none⟩ = _ := fun h => hb1.frozen (p := ⟨W2.heap.size + 1, 1, none⟩) h;  have hL := hb1.size; simp at hL; have nv : w1.heap.size ≠ w.heap.size := by omega)))
    all_goals
      go_wp2_with fail
      go_meet
      refine ⟨_, rfl, rfl, ⟨?_, ?_,  ?_⟩⟩
      · first | exact Has.new _ _ _ rfl | exact Has.drew (Has.new _ _ _ rfl) | (refine Has.set (Has.set (Has.below (b := W2.heap.size) (cs := pC 0 0) (T := 24) ?_ hb1) 0 _) 1 _; (repeat (first | exact Has.new _ _ _ (by simp) | (with_reducible first | apply Has.alloc | apply Has.drewN | apply Has.drew))); done) | (refine Has.drew (Has.set (Has.set (Has.below (b := W2.heap.size) (cs := pC 0 0) (T := 24) ?_ hb1) 0 _) 1 _); (repeat (first | exact Has.new _ _ _ (by simp) | (with_reducible first | apply Has.alloc | apply Has.drewN | apply Has.drew))); done) | (refine Has.set (Has.set (Has.below (b := W2.heap.size + 1) (cs := pC 0 0) (T := 24) ?_ hb1) 0 _) 1 _; (repeat (first | exact Has.new _ _ _ (by simp) | (with_reducible first | apply Has.alloc | apply Has.drewN | apply Has.drew))); done) | (refine Has.drew (Has.set (Has.set (Has.below (b := W2.heap.size + 1) (cs := pC 0 0) (T := 24) ?_ hb1) 0 _) 1 _); (repeat (first | exact Has.new _ _ _ (by simp) | (with_reducible first | apply Has.alloc | apply Has.drewN | apply Has.drew))); done)
      · repeat (first | (with_reducible exact Has.below (by repeat (first | (with_reducible exact H9.out) | apply Has.alloc | apply Has.drewN | apply Has.drew)) hb1) | (with_reducible first | apply Has.alloc | apply Has.drewN | apply Has.drew) | (with_reducible refine Has.far ?_ (by simp; omega) _))
      · repeat (first | (with_reducible exact below_step (by repeat (first | (with_reducible first | exact HG.out | apply below_alloc | apply pw_below_drewN | apply below_drew1))) hb1) | (with_reducible first | apply below_alloc | apply pw_below_drewN | apply below_drew1) | (with_reducible refine below_set ?_ (by omega)))
  case rest =>
    obtain ⟨b10, rfl, rfl, HX⟩ := hcut
    obtain ⟨h10, kH9, hg⟩ := HX.out
    clear HX HG H9 lH9 nH9a nH9b nH9c c0 c1
    obtain ⟨W3, rfl⟩ : ∃ W0, W0 = wc := ⟨_, rfl⟩
    have H9 := Aside0.mk kH9
    have H10 := Aside0.mk h10
    have HG := Aside0.mk hg
    have gz := HG.out.size
    clear h10 hg kH9
    go_upto_region 3 with fail
    have lH9 := H9.out.lt
    have nH9a : W3.heap.size ≠ w.heap.size := by omega
    have nH9b : W3.heap.size + 1 ≠ w.heap.size := by omega
    have nH9c : W3.heap.size + 1 + 1 ≠ w.heap.size := by omega
    have lH10 := H10.out.lt
    have nH10a : W3.heap.size ≠ b10 := by omega
    have nH10b : W3.heap.size + 1 ≠ b10 := by omega
    have nH10c : W3.heap.size + 1 + 1 ≠ b10 := by omega
    have c0 : W3.cell? ⟨w.heap.size, 0, none⟩ = some (.int .i64 (p * 65536)) := H9.out.cell 0
    have c1 : W3.cell? ⟨w.heap.size, 1, none⟩ = some (.int .i64 (q * 65536)) := H9.out.cell 1
    go_cut [12, 13] (fun s12 s13 wc => ∃ b : Nat, s12 = .pointer (some ⟨b, 0, none⟩) ∧ s13 = .int .i64 0 ∧ Aside0 (Has wc b (pC (p * 65536) (q * 65536)) 24 ∧ Has wc w.heap.size (pC (p * 65536) (q * 65536)) 24 ∧ Has wc b10 (pC u.1 u.2.1) 24 ∧ Below w.heap.size w wc))
    case first =>
      go_region_held3 (fun w' => w'.cell? ⟨w.heap.size, 0, none⟩ = some (.int .i64 (p * 65536)) ∧ w'.cell? ⟨w.heap.size, 1, none⟩ = some (.int .i64 (q * 65536))) (first | exact ⟨by assumption, by assumption⟩ | go_keep)
        (first | (go_at_call 13; ((with_reducible refine (cTranslateX _ _ _).mono ?_); rintro e w1 ⟨rfl, rfl⟩)) | (go_at_call 10; ((with_reducible refine (cDelta _ _ _ _ _ _ _ _ _).mono ?_); rintro e w1 ⟨rfl, hb1⟩; rw [HV.out]; have d0 : w1.cell? ⟨w.heap.size, 0, none⟩ = some (.int .i64 (p * 65536)) := (Has.below (by repeat (first | (with_reducible exact H9.out) | apply Has.alloc | apply Has.drewN | apply Has.drew)) hb1).cell 0; have d1 : w1.cell? ⟨w.heap.size, 1, none⟩ = some (.int .i64 (q * 65536)) := (Has.below (by repeat (first | (with_reducible exact H9.out) | apply Has.alloc | apply Has.drewN | apply Has.drew)) hb1).cell 1; have ay0 : W3.heap.size < _ → w1.cell? ⟨W3.heap.size, 0, none⟩ = _ := fun h => hb1.cell (p := ⟨W3.heap.size, 0, none⟩) h; have fy0 : W3.heap.size < _ → w1.frozen? ⟨W3.heap.size, 0, none⟩ = _ := fun h => hb1.frozen (p := ⟨W3.heap.size, 0, none⟩) h; have ay1 : W3.heap.size < _ → w1.cell? ⟨W3.heap.size, 1, none⟩ = _ := fun h => hb1.cell (p := ⟨W3.heap.size, 1, none⟩) h; have fy1 : W3.heap.size < _ → w1.frozen? ⟨W3.heap.size, 1, none⟩ = _ := fun h => hb1.frozen (p := ⟨W3.heap.size, 1, none⟩) h; have ax0 : W3.heap.size + 1 < _ → w1.cell? ⟨W3.heap.size + 1, 0, none⟩ = _ := fun h => hb1.cell (p := ⟨W3.heap.size + 1, 0, none⟩) h; have fx0 : W3.heap.size + 1 < _ → w1.frozen? ⟨W3.heap.size + 1, 0, none⟩ = _ := fun h => hb1.frozen (p := ⟨W3.heap.size + 1, 0, none⟩) h; have ax1 : W3.heap.size + 1 < _ → w1.cell? ⟨W3.heap.size + 1, 1, none⟩ = _ := fun h => hb1.cell (p := ⟨W3.heap.size + 1, 1, none⟩) h; have fx1 : W3.heap.size + 1 < _ → w1.frozen? ⟨W3.heap.size + 1, 1, none⟩ = _ := fun h => hb1.frozen (p := ⟨W3.heap.size + 1, 1, none⟩) h;  have hL := hb1.size; simp at hL; have nv : w1.heap.size ≠ w.heap.size := by omega)))
      all_goals
        go_wp2_with fail
        go_meet
        refine ⟨_, rfl, rfl, ⟨?_, ?_, ?_,  ?_⟩⟩
        · first | exact Has.new _ _ _ rfl | exact Has.drew (Has.new _ _ _ rfl) | (refine Has.set (Has.set (Has.below (b := W3.heap.size) (cs := pC 0 0) (T := 24) ?_ hb1) 0 _) 1 _; (repeat (first | exact Has.new _ _ _ (by simp) | (with_reducible first | apply Has.alloc | apply Has.drewN | apply Has.drew))); done) | (refine Has.drew (Has.set (Has.set (Has.below (b := W3.heap.size) (cs := pC 0 0) (T := 24) ?_ hb1) 0 _) 1 _); (repeat (first | exact Has.new _ _ _ (by simp) | (with_reducible first | apply Has.alloc | apply Has.drewN | apply Has.drew))); done) | (refine Has.set (Has.set (Has.below (b := W3.heap.size + 1) (cs := pC 0 0) (T := 24) ?_ hb1) 0 _) 1 _; (repeat (first | exact Has.new _ _ _ (by simp) | (with_reducible first | apply Has.alloc | apply Has.drewN | apply Has.drew))); done) | (refine Has.drew (Has.set (Has.set (Has.below (b := W3.heap.size + 1) (cs := pC 0 0) (T := 24) ?_ hb1) 0 _) 1 _); (repeat (first | exact Has.new _ _ _ (by simp) | (with_reducible first | apply Has.alloc | apply Has.drewN | apply Has.drew))); done)
        · repeat (first | (with_reducible exact Has.below (by repeat (first | (with_reducible exact H9.out) | apply Has.alloc | apply Has.drewN | apply Has.drew)) hb1) | (with_reducible first | apply Has.alloc | apply Has.drewN | apply Has.drew) | (with_reducible refine Has.far ?_ (by simp; omega) _))
        · repeat (first | (with_reducible exact Has.below (by repeat (first | (with_reducible exact H10.out) | apply Has.alloc | apply Has.drewN | apply Has.drew)) hb1) | (with_reducible first | apply Has.alloc | apply Has.drewN | apply Has.drew) | (with_reducible refine Has.far ?_ (by simp; omega) _))
        · repeat (first | (with_reducible exact below_step (by repeat (first | (with_reducible first | exact HG.out | apply below_alloc | apply pw_below_drewN | apply below_drew1))) hb1) | (with_reducible first | apply below_alloc | apply pw_below_drewN | apply below_drew1) | (with_reducible refine below_set ?_ (by omega)))
    case rest =>
      obtain ⟨b12, rfl, rfl, HX⟩ := hcut
      obtain ⟨h12, kH9, kH10, hg⟩ := HX.out
      clear HX HG H9 lH9 nH9a nH9b nH9c H10 lH10 nH10a nH10b nH10c c0 c1
      obtain ⟨W4, rfl⟩ : ∃ W0, W0 = wc := ⟨_, rfl⟩
      have H9 := Aside0.mk kH9
      have H10 := Aside0.mk kH10
      have H12 := Aside0.mk h12
      have HG := Aside0.mk hg
      have gz := HG.out.size
      clear h12 hg kH9 kH10
      go_upto_region 4 with fail
      have lH9 := H9.out.lt
      have nH9a : W4.heap.size ≠ w.heap.size := by omega
      have nH9b : W4.heap.size + 1 ≠ w.heap.size := by omega
      have nH9c : W4.heap.size + 1 + 1 ≠ w.heap.size := by omega
      have lH10 := H10.out.lt
      have nH10a : W4.heap.size ≠ b10 := by omega
      have nH10b : W4.heap.size + 1 ≠ b10 := by omega
      have nH10c : W4.heap.size + 1 + 1 ≠ b10 := by omega
      have lH12 := H12.out.lt
      have nH12a : W4.heap.size ≠ b12 := by omega
      have nH12b : W4.heap.size + 1 ≠ b12 := by omega
      have nH12c : W4.heap.size + 1 + 1 ≠ b12 := by omega
      have c0 : W4.cell? ⟨w.heap.size, 0, none⟩ = some (.int .i64 (p * 65536)) := H9.out.cell 0
      have c1 : W4.cell? ⟨w.heap.size, 1, none⟩ = some (.int .i64 (q * 65536)) := H9.out.cell 1
      go_cut [14, 15] (fun s14 s15 wc => ∃ b : Nat, s14 = .pointer (some ⟨b, 0, none⟩) ∧ s15 = .int .i64 0 ∧ Aside0 (Has wc b (pC (p * x) (q * y)) 24 ∧ Has wc w.heap.size (pC (p * 65536) (q * 65536)) 24 ∧ Has wc b10 (pC u.1 u.2.1) 24 ∧ Has wc b12 (pC (p * 65536) (q * 65536)) 24 ∧ Below w.heap.size w wc))
      case first =>
        go_region_held3 (fun w' => w'.cell? ⟨w.heap.size, 0, none⟩ = some (.int .i64 (p * 65536)) ∧ w'.cell? ⟨w.heap.size, 1, none⟩ = some (.int .i64 (q * 65536))) (first | exact ⟨by assumption, by assumption⟩ | go_keep)
          (first | (go_at_call 14; ((with_reducible refine (cStretchX _ _ _).mono ?_); rintro e w1 ⟨rfl, rfl⟩)) | (go_at_call 8; ((with_reducible refine (cApply _ _ _ _ _ _ _ _ _).mono ?_); rintro e w1 ⟨rfl, hb1⟩; rw [HT.out]; have d0 : w1.cell? ⟨w.heap.size, 0, none⟩ = some (.int .i64 (p * 65536)) := (Has.below (by repeat (first | (with_reducible exact H9.out) | apply Has.alloc | apply Has.drewN | apply Has.drew)) hb1).cell 0; have d1 : w1.cell? ⟨w.heap.size, 1, none⟩ = some (.int .i64 (q * 65536)) := (Has.below (by repeat (first | (with_reducible exact H9.out) | apply Has.alloc | apply Has.drewN | apply Has.drew)) hb1).cell 1; have ay0 : W4.heap.size < _ → w1.cell? ⟨W4.heap.size, 0, none⟩ = _ := fun h => hb1.cell (p := ⟨W4.heap.size, 0, none⟩) h; have fy0 : W4.heap.size < _ → w1.frozen? ⟨W4.heap.size, 0, none⟩ = _ := fun h => hb1.frozen (p := ⟨W4.heap.size, 0, none⟩) h; have ay1 : W4.heap.size < _ → w1.cell? ⟨W4.heap.size, 1, none⟩ = _ := fun h => hb1.cell (p := ⟨W4.heap.size, 1, none⟩) h; have fy1 : W4.heap.size < _ → w1.frozen? ⟨W4.heap.size, 1, none⟩ = _ := fun h => hb1.frozen (p := ⟨W4.heap.size, 1, none⟩) h; have ax0 : W4.heap.size + 1 < _ → w1.cell? ⟨W4.heap.size + 1, 0, none⟩ = _ := fun h => hb1.cell (p := ⟨W4.heap.size + 1, 0, none⟩) h; have fx0 : W4.heap.size + 1 < _ → w1.frozen? ⟨W4.heap.size + 1, 0, none⟩ = _ := fun h => hb1.frozen (p := ⟨W4.heap.size + 1, 0, none⟩) h; have ax1 : W4.heap.size + 1 < _ → w1.cell? ⟨W4.heap.size + 1, 1, none⟩ = _ := fun h => hb1.cell (p := ⟨W4.heap.size + 1, 1, none⟩) h; have fx1 : W4.heap.size + 1 < _ → w1.frozen? ⟨W4.heap.size + 1, 1, none⟩ = _ := fun h => hb1.frozen (p := ⟨W4.heap.size + 1, 1, none⟩) h;  have hL := hb1.size; simp at hL; have nv : w1.heap.size ≠ w.heap.size := by omega)))
        all_goals
          go_wp2_with fail
          go_meet
          refine ⟨_, rfl, rfl, ⟨?_, ?_, ?_, ?_,  ?_⟩⟩
          · first | exact Has.new _ _ _ rfl | exact Has.drew (Has.new _ _ _ rfl) | (refine Has.set (Has.set (Has.below (b := W4.heap.size) (cs := pC 0 0) (T := 24) ?_ hb1) 0 _) 1 _; (repeat (first | exact Has.new _ _ _ (by simp) | (with_reducible first | apply Has.alloc | apply Has.drewN | apply Has.drew))); done) | (refine Has.drew (Has.set (Has.set (Has.below (b := W4.heap.size) (cs := pC 0 0) (T := 24) ?_ hb1) 0 _) 1 _); (repeat (first | exact Has.new _ _ _ (by simp) | (with_reducible first | apply Has.alloc | apply Has.drewN | apply Has.drew))); done) | (refine Has.set (Has.set (Has.below (b := W4.heap.size + 1) (cs := pC 0 0) (T := 24) ?_ hb1) 0 _) 1 _; (repeat (first | exact Has.new _ _ _ (by simp) | (with_reducible first | apply Has.alloc | apply Has.drewN | apply Has.drew))); done) | (refine Has.drew (Has.set (Has.set (Has.below (b := W4.heap.size + 1) (cs := pC 0 0) (T := 24) ?_ hb1) 0 _) 1 _); (repeat (first | exact Has.new _ _ _ (by simp) | (with_reducible first | apply Has.alloc | apply Has.drewN | apply Has.drew))); done)
          · repeat (first | (with_reducible exact Has.below (by repeat (first | (with_reducible exact H9.out) | apply Has.alloc | apply Has.drewN | apply Has.drew)) hb1) | (with_reducible first | apply Has.alloc | apply Has.drewN | apply Has.drew) | (with_reducible refine Has.far ?_ (by simp; omega) _))
          · repeat (first | (with_reducible exact Has.below (by repeat (first | (with_reducible exact H10.out) | apply Has.alloc | apply Has.drewN | apply Has.drew)) hb1) | (with_reducible first | apply Has.alloc | apply Has.drewN | apply Has.drew) | (with_reducible refine Has.far ?_ (by simp; omega) _))
          · repeat (first | (with_reducible exact Has.below (by repeat (first | (with_reducible exact H12.out) | apply Has.alloc | apply Has.drewN | apply Has.drew)) hb1) | (with_reducible first | apply Has.alloc | apply Has.drewN | apply Has.drew) | (with_reducible refine Has.far ?_ (by simp; omega) _))
          · repeat (first | (with_reducible exact below_step (by repeat (first | (with_reducible first | exact HG.out | apply below_alloc | apply pw_below_drewN | apply below_drew1))) hb1) | (with_reducible first | apply below_alloc | apply pw_below_drewN | apply below_drew1) | (with_reducible refine below_set ?_ (by omega)))
      case rest =>
        obtain ⟨b14, rfl, rfl, HX⟩ := hcut
        obtain ⟨h14, kH9, kH10, kH12, hg⟩ := HX.out
        clear HX HG H9 lH9 nH9a nH9b nH9c H10 lH10 nH10a nH10b nH10c H12 lH12 nH12a nH12b nH12c c0 c1
        obtain ⟨W5, rfl⟩ : ∃ W0, W0 = wc := ⟨_, rfl⟩
        have H9 := Aside0.mk kH9
        have H10 := Aside0.mk kH10
        have H12 := Aside0.mk kH12
        have H14 := Aside0.mk h14
        have HG := Aside0.mk hg
        have gz := HG.out.size
        clear h14 hg kH9 kH10 kH12
        go_wp2_with fail
        refine (cAnswers _).mono ?_
        rintro e W6 ⟨rfl, hb⟩
        have kH9 : Has W6 w.heap.size (pC (p * 65536) (q * 65536)) 24 := Has.below H9.out hb
        have cH90 : W6.cell? ⟨w.heap.size, 0, none⟩ = some (.int .i64 (p * 65536)) := kH9.cell 0
        have cH91 : W6.cell? ⟨w.heap.size, 1, none⟩ = some (.int .i64 (q * 65536)) := kH9.cell 1
        have lH9 := kH9.lt
        have kH10 : Has W6 b10 (pC u.1 u.2.1) 24 := Has.below H10.out hb
        have cH100 : W6.cell? ⟨b10, 0, none⟩ = some (.int .i64 u.1) := kH10.cell 0
        have cH101 : W6.cell? ⟨b10, 1, none⟩ = some (.int .i64 u.2.1) := kH10.cell 1
        have lH10 := kH10.lt
        have kH12 : Has W6 b12 (pC (p * 65536) (q * 65536)) 24 := Has.below H12.out hb
        have cH120 : W6.cell? ⟨b12, 0, none⟩ = some (.int .i64 (p * 65536)) := kH12.cell 0
        have cH121 : W6.cell? ⟨b12, 1, none⟩ = some (.int .i64 (q * 65536)) := kH12.cell 1
        have lH12 := kH12.lt
        have kH14 : Has W6 b14 (pC (p * x) (q * y)) 24 := Has.below H14.out hb
        have cH140 : W6.cell? ⟨b14, 0, none⟩ = some (.int .i64 (p * x)) := kH14.cell 0
        have cH141 : W6.cell? ⟨b14, 1, none⟩ = some (.int .i64 (q * y)) := kH14.cell 1
        have lH14 := kH14.lt
        have hg := below_step HG.out hb
        have HG6 := Aside0.mk hg
        clear hb hg HG gz H9 kH9 H10 kH10 H12 kH12 H14 kH14
        have q1 := fun w => neqP_self (p * 65536) (q * 65536) w
        have q2 := fun w => eqP_self (p * x) (q * y) w
        have fx := FX.out
        have fy := FY.out
        cases s1 : fitB (p * 65536 + x)
        · go_wp2_with (go_at_call 15; ((with_reducible refine (rFits _ _).mono ?_); rintro e w' ⟨rfl, ⟨nd, rfl⟩⟩))
          go_ret
          exact ⟨rfl, by repeat (first | (with_reducible first | exact HG6.out | apply below_alloc | apply pw_below_drewN | apply below_drew1))⟩
        · cases s2 : fitB (q * 65536 + y)
          · go_wp2_with (go_at_call 15; ((with_reducible refine (rFits _ _).mono ?_); rintro e w' ⟨rfl, ⟨nd, rfl⟩⟩))
            go_ret
            exact ⟨rfl, by repeat (first | (with_reducible first | exact HG6.out | apply below_alloc | apply pw_below_drewN | apply below_drew1))⟩
          · have hu := HM.out s1 s2
            subst hu
            have q3 := fun w => neqP_self (p * 65536 + x) (q * 65536 + y) w
            go_wp2_with (go_at_call 15; ((with_reducible refine (rFits _ _).mono ?_); rintro e w' ⟨rfl, ⟨nd, rfl⟩⟩))
            go_ret
            exact ⟨rfl, by repeat (first | (with_reducible first | exact HG6.out | apply below_alloc | apply pw_below_drewN | apply below_drew1))⟩
end Go.Proofs.Ytkggogbgnphmpaa.Moves
