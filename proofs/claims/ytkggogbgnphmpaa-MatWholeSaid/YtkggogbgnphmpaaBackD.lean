/- The walks of the functions that tell how much lines grow. -/
import Derived.Test.YtkggogbgnphmpaaBackC
namespace Go.Proofs.Ytkggogbgnphmpaa.MatA
open Go.RowKit Go.Proofs.YtkggogbgnphmpaaW.PrintWords Go.Proofs.YtkggogbgnphmpaaW.PrintLast Go.Proofs.YtkggogbgnphmpaaW.PrintMore
open Go.Proofs.Ytkggogbgnphmpaa.Sem Go.Proofs.Ytkggogbgnphmpaa.Base Go.Proofs.Ytkggogbgnphmpaa.Ref

theorem scaleB_neg {m0 m1 m2 m3 d t st : Int} (h : detS 0 m0 m1 m2 m3 = (d, 0)) (hd : d < 0) (ht : subS 0 0 d = (t, st)) : scaleB m0 m1 m2 m3 = if st = 0 then sqrtR t else (0, st) := by
  unfold scaleB; rw [h]; dsimp only; rw [if_pos (show (0 : Int) = 0 ∧ d < 0 from ⟨rfl, hd⟩), ht]
theorem scaleB_pos {m0 m1 m2 m3 d : Int} (h : detS 0 m0 m1 m2 m3 = (d, 0)) (hd : ¬ d < 0) : scaleB m0 m1 m2 m3 = sqrtR d := by
  unfold scaleB; rw [h]; dsimp only; rw [if_neg (show ¬ ((0 : Int) = 0 ∧ d < 0) from fun h => hd h.2)]; exact if_pos rfl
theorem scaleB_err {m0 m1 m2 m3 d sd : Int} (h : detS 0 m0 m1 m2 m3 = (d, sd)) (hs : sd ≠ 0) : scaleB m0 m1 m2 m3 = (0, sd) := by
  unfold scaleB; rw [h]; dsimp only; rw [if_neg (show ¬ (sd = 0 ∧ d < 0) from fun h => hs h.1)]; exact if_neg hs

set_option maxHeartbeats 3200000 in
set_option maxRecDepth 100000 in
theorem cScale (m0 m1 m2 m3 m4 m5 : Int) (w : World) :
    Calls Try.prog 21 #[mV m0 m1 m2 m3 m4 m5] w fun e w' => e = .returned (.tuple #[.int .i64 (scaleA m0 m1 m2 m3).1, .int .i64 (scaleA m0 m1 m2 m3).2]) ∧ Below w.heap.size w w' := by
  go_enter Try.func21, Try.ntmps21
  go_upto_region 2 with fail
  have HM := Aside0.mk (show Has _ (w.heap.size) (mC m0 m1 m2 m3 m4 m5) 22 from Has.alloc (Has.new w _ _ rfl) (.cells #[.int .i64 0] 46))
  have HS := Aside0.mk (show Has _ (w.heap.size + 1) #[.int .i64 0] 46 from Has.new (w.alloc (.cells (mC m0 m1 m2 m3 m4 m5) 22)) _ _ (by simp))
  have HB := Aside0.mk (below_alloc (below_alloc (Below.refl w.heap.size w) (.cells (mC m0 m1 m2 m3 m4 m5) 22)) (.cells #[.int .i64 0] 46))
  generalize (w.alloc (.cells (mC m0 m1 m2 m3 m4 m5) 22)).alloc (.cells #[.int .i64 0] 46) = W0 at *
  have c0 : W0.cell? ⟨w.heap.size, 0, none⟩ = some (.int .i64 m0) := HM.out.cell 0
  have c1 : W0.cell? ⟨w.heap.size, 1, none⟩ = some (.int .i64 m1) := HM.out.cell 1
  have c2 : W0.cell? ⟨w.heap.size, 2, none⟩ = some (.int .i64 m2) := HM.out.cell 2
  have c3 : W0.cell? ⟨w.heap.size, 3, none⟩ = some (.int .i64 m3) := HM.out.cell 3
  have c4 : W0.cell? ⟨w.heap.size, 4, none⟩ = some (.int .i64 m4) := HM.out.cell 4
  have c5 : W0.cell? ⟨w.heap.size, 5, none⟩ = some (.int .i64 m5) := HM.out.cell 5
  go_upto_region 3 with (go_at_call 27; ((with_reducible refine (cDetA (w0 := w) (m0 := m0) (m1 := m1) (m2 := m2) (m3 := m3) (by repeat (first | (with_reducible exact HS.out) | (with_reducible first | apply Has.alloc | apply Has.drewN | apply Has.drew) | (with_reducible refine Has.far ?_ (by dsimp only; omega) _))) (by omega) (by repeat (first | (with_reducible first | exact HB.out | apply below_alloc | apply pw_below_drewN | apply below_drew1) | (with_reducible refine below_set ?_ (by omega))))).mono ?_); rintro e w3 ⟨d, sd, rfl, Ed, hs, hb, hk⟩; have nHM := Aside0.mk (Has.keep (show Has _ (w.heap.size) (mC m0 m1 m2 m3 m4 m5) 22 from by repeat (first | (with_reducible exact HM.out) | (with_reducible first | apply Has.alloc | apply Has.drewN | apply Has.drew) | (with_reducible refine Has.far ?_ (by dsimp only; omega) _))) hk (by omega)); have nHS := Aside0.mk hs; have nHB := Aside0.mk hb; clear hs hb hk HS HB HM  c0 c1 c2 c3 c4 c5; have HS := nHS; clear nHS; have HB := nHB; clear nHB; have HM := nHM; clear nHM; have c0 : w3.cell? ⟨w.heap.size, 0, none⟩ = some (.int .i64 m0) := HM.out.cell 0; have c1 : w3.cell? ⟨w.heap.size, 1, none⟩ = some (.int .i64 m1) := HM.out.cell 1; have c2 : w3.cell? ⟨w.heap.size, 2, none⟩ = some (.int .i64 m2) := HM.out.cell 2; have c3 : w3.cell? ⟨w.heap.size, 3, none⟩ = some (.int .i64 m3) := HM.out.cell 3; have c4 : w3.cell? ⟨w.heap.size, 4, none⟩ = some (.int .i64 m4) := HM.out.cell 4; have c5 : w3.cell? ⟨w.heap.size, 5, none⟩ = some (.int .i64 m5) := HM.out.cell 5; have lS := HS.out.lt; have hS0 : w3.cell? ⟨w.heap.size + 1, 0, none⟩ = some (.int .i64 sd) := HS.out.cell 0; skip))
  by_cases hd : d < 0
  · have e1 : decide (d < 0) = true := decide_eq_true hd
    go_upto_region 5 with (go_at_call 29; ((with_reducible refine (xSubA (w0 := w) (a := 0) (b := d) (by repeat (first | (with_reducible exact HS.out) | (with_reducible first | apply Has.alloc | apply Has.drewN | apply Has.drew) | (with_reducible refine Has.far ?_ (by dsimp only; omega) _))) (by omega) (by repeat (first | (with_reducible first | exact HB.out | apply below_alloc | apply pw_below_drewN | apply below_drew1) | (with_reducible refine below_set ?_ (by omega))))).mono ?_); rintro e w4 ⟨t, st, rfl, Et, hs, hb, hk⟩; have nHM := Aside0.mk (Has.keep (show Has _ (w.heap.size) (mC m0 m1 m2 m3 m4 m5) 22 from by repeat (first | (with_reducible exact HM.out) | (with_reducible first | apply Has.alloc | apply Has.drewN | apply Has.drew) | (with_reducible refine Has.far ?_ (by dsimp only; omega) _))) hk (by omega)); have nHS := Aside0.mk hs; have nHB := Aside0.mk hb; clear hs hb hk HS HB HM  c0 c1 c2 c3 c4 c5; have HS := nHS; clear nHS; have HB := nHB; clear nHB; have HM := nHM; clear nHM; have c0 : w4.cell? ⟨w.heap.size, 0, none⟩ = some (.int .i64 m0) := HM.out.cell 0; have c1 : w4.cell? ⟨w.heap.size, 1, none⟩ = some (.int .i64 m1) := HM.out.cell 1; have c2 : w4.cell? ⟨w.heap.size, 2, none⟩ = some (.int .i64 m2) := HM.out.cell 2; have c3 : w4.cell? ⟨w.heap.size, 3, none⟩ = some (.int .i64 m3) := HM.out.cell 3; have c4 : w4.cell? ⟨w.heap.size, 4, none⟩ = some (.int .i64 m4) := HM.out.cell 4; have c5 : w4.cell? ⟨w.heap.size, 5, none⟩ = some (.int .i64 m5) := HM.out.cell 5; have lS := HS.out.lt; have hS0 : w4.cell? ⟨w.heap.size + 1, 0, none⟩ = some (.int .i64 st) := HS.out.cell 0; skip))
    have EA := Aside0.mk (show scaleA m0 m1 m2 m3 = (if (tk st (sqrtR (max t 0))).2 = 0 then ((tk st (sqrtR (max t 0))).1, 0) else (0, (tk st (sqrtR (max t 0))).2)) by unfold scaleA; rw [Ed.out]; dsimp only; rw [if_pos hd, Et.out])
    clear hd
    obtain ⟨mx, hmx⟩ : ∃ mx, max t 0 = mx := ⟨_, rfl⟩
    rw [hmx] at EA
    obtain ⟨q, hq⟩ : ∃ q, sqrtR mx = q := ⟨_, rfl⟩
    rw [hq] at EA
    have HX := Aside0.mk hmx
    have HQ := Aside0.mk hq
    clear hmx hq
    go_upto_region 6 with (first | (go_at_call 35; ((with_reducible refine (cSqrt t _).mono ?_); rintro e wq ⟨rfl, ⟨nd, rfl⟩⟩; rw [show sqrtR t = q from by rw [← HQ.out, ← HX.out]; congr 1; omega])) | (go_at_call 35; ((with_reducible refine (cSqrt 0 _).mono ?_); rintro e wq ⟨rfl, ⟨nd, rfl⟩⟩; rw [show sqrtR 0 = q from by rw [← HQ.out, ← HX.out]; congr 1; omega])) | (go_at_call 34; ((with_reducible refine (xTookA (w0 := w) (a := q.1) (b := q.2) (by repeat (first | (with_reducible exact HS.out) | (with_reducible first | apply Has.alloc | apply Has.drewN | apply Has.drew) | (with_reducible refine Has.far ?_ (by dsimp only; omega) _))) (by omega) (by repeat (first | (with_reducible first | exact HB.out | apply below_alloc | apply pw_below_drewN | apply below_drew1) | (with_reducible refine below_set ?_ (by omega))))).mono ?_); rintro e w9 ⟨n, sn, rfl, En, hs, hb, hk⟩; have nHM := Aside0.mk (Has.keep (show Has _ (w.heap.size) (mC m0 m1 m2 m3 m4 m5) 22 from by repeat (first | (with_reducible exact HM.out) | (with_reducible first | apply Has.alloc | apply Has.drewN | apply Has.drew) | (with_reducible refine Has.far ?_ (by dsimp only; omega) _))) hk (by omega)); have nHS := Aside0.mk hs; have nHB := Aside0.mk hb; clear hs hb hk HS HB HM  c0 c1 c2 c3 c4 c5; have HS := nHS; clear nHS; have HB := nHB; clear nHB; have HM := nHM; clear nHM; have c0 : w9.cell? ⟨w.heap.size, 0, none⟩ = some (.int .i64 m0) := HM.out.cell 0; have c1 : w9.cell? ⟨w.heap.size, 1, none⟩ = some (.int .i64 m1) := HM.out.cell 1; have c2 : w9.cell? ⟨w.heap.size, 2, none⟩ = some (.int .i64 m2) := HM.out.cell 2; have c3 : w9.cell? ⟨w.heap.size, 3, none⟩ = some (.int .i64 m3) := HM.out.cell 3; have c4 : w9.cell? ⟨w.heap.size, 4, none⟩ = some (.int .i64 m4) := HM.out.cell 4; have c5 : w9.cell? ⟨w.heap.size, 5, none⟩ = some (.int .i64 m5) := HM.out.cell 5; have lS := HS.out.lt; have hS0 : w9.cell? ⟨w.heap.size + 1, 0, none⟩ = some (.int .i64 sn) := HS.out.cell 0; skip)))
    all_goals
      by_cases hn : sn = 0
      · subst hn
        have E := Aside0.mk (show scaleA m0 m1 m2 m3 = (n, 0) by rw [EA.out, show tk st q = (n, 0) from En.out]; rfl)
        go_wp2
        go_ret2
        exact ⟨by rw [E.out]; first | done | rfl, by repeat (first | (with_reducible first | exact HB.out | apply below_alloc | apply pw_below_drewN | apply below_drew1) | (with_reducible refine below_set ?_ (by omega)))⟩
      · have e5 : (sn != 0) = true := bne_iff_ne.mpr hn
        have E := Aside0.mk (show scaleA m0 m1 m2 m3 = (0, sn) by rw [EA.out, show tk st q = (n, sn) from En.out]; exact if_neg hn)
        go_wp2
        go_region
        all_goals go_wp2
        all_goals go_ret2
        all_goals exact ⟨by rw [E.out]; first | done | rfl, by repeat (first | (with_reducible first | exact HB.out | apply below_alloc | apply pw_below_drewN | apply below_drew1) | (with_reducible refine below_set ?_ (by omega)))⟩
  · have e1 : decide (d < 0) = false := decide_eq_false hd
    go_upto_region 5 with fail
    have EA := Aside0.mk (show scaleA m0 m1 m2 m3 = (if (tk sd (sqrtR (max d 0))).2 = 0 then ((tk sd (sqrtR (max d 0))).1, 0) else (0, (tk sd (sqrtR (max d 0))).2)) by unfold scaleA; rw [Ed.out]; dsimp only; rw [if_neg hd])
    clear hd
    obtain ⟨mx, hmx⟩ : ∃ mx, max d 0 = mx := ⟨_, rfl⟩
    rw [hmx] at EA
    obtain ⟨q, hq⟩ : ∃ q, sqrtR mx = q := ⟨_, rfl⟩
    rw [hq] at EA
    have HX := Aside0.mk hmx
    have HQ := Aside0.mk hq
    clear hmx hq
    go_upto_region 6 with (first | (go_at_call 35; ((with_reducible refine (cSqrt d _).mono ?_); rintro e wq ⟨rfl, ⟨nd, rfl⟩⟩; rw [show sqrtR d = q from by rw [← HQ.out, ← HX.out]; congr 1; omega])) | (go_at_call 35; ((with_reducible refine (cSqrt 0 _).mono ?_); rintro e wq ⟨rfl, ⟨nd, rfl⟩⟩; rw [show sqrtR 0 = q from by rw [← HQ.out, ← HX.out]; congr 1; omega])) | (go_at_call 34; ((with_reducible refine (xTookA (w0 := w) (a := q.1) (b := q.2) (by repeat (first | (with_reducible exact HS.out) | (with_reducible first | apply Has.alloc | apply Has.drewN | apply Has.drew) | (with_reducible refine Has.far ?_ (by dsimp only; omega) _))) (by omega) (by repeat (first | (with_reducible first | exact HB.out | apply below_alloc | apply pw_below_drewN | apply below_drew1) | (with_reducible refine below_set ?_ (by omega))))).mono ?_); rintro e w9 ⟨n, sn, rfl, En, hs, hb, hk⟩; have nHM := Aside0.mk (Has.keep (show Has _ (w.heap.size) (mC m0 m1 m2 m3 m4 m5) 22 from by repeat (first | (with_reducible exact HM.out) | (with_reducible first | apply Has.alloc | apply Has.drewN | apply Has.drew) | (with_reducible refine Has.far ?_ (by dsimp only; omega) _))) hk (by omega)); have nHS := Aside0.mk hs; have nHB := Aside0.mk hb; clear hs hb hk HS HB HM  c0 c1 c2 c3 c4 c5; have HS := nHS; clear nHS; have HB := nHB; clear nHB; have HM := nHM; clear nHM; have c0 : w9.cell? ⟨w.heap.size, 0, none⟩ = some (.int .i64 m0) := HM.out.cell 0; have c1 : w9.cell? ⟨w.heap.size, 1, none⟩ = some (.int .i64 m1) := HM.out.cell 1; have c2 : w9.cell? ⟨w.heap.size, 2, none⟩ = some (.int .i64 m2) := HM.out.cell 2; have c3 : w9.cell? ⟨w.heap.size, 3, none⟩ = some (.int .i64 m3) := HM.out.cell 3; have c4 : w9.cell? ⟨w.heap.size, 4, none⟩ = some (.int .i64 m4) := HM.out.cell 4; have c5 : w9.cell? ⟨w.heap.size, 5, none⟩ = some (.int .i64 m5) := HM.out.cell 5; have lS := HS.out.lt; have hS0 : w9.cell? ⟨w.heap.size + 1, 0, none⟩ = some (.int .i64 sn) := HS.out.cell 0; skip)))
    all_goals
      by_cases hn : sn = 0
      · subst hn
        have E := Aside0.mk (show scaleA m0 m1 m2 m3 = (n, 0) by rw [EA.out, show tk sd q = (n, 0) from En.out]; rfl)
        go_wp2
        go_ret2
        exact ⟨by rw [E.out]; first | done | rfl, by repeat (first | (with_reducible first | exact HB.out | apply below_alloc | apply pw_below_drewN | apply below_drew1) | (with_reducible refine below_set ?_ (by omega)))⟩
      · have e5 : (sn != 0) = true := bne_iff_ne.mpr hn
        have E := Aside0.mk (show scaleA m0 m1 m2 m3 = (0, sn) by rw [EA.out, show tk sd q = (n, sn) from En.out]; exact if_neg hn)
        go_wp2
        go_region
        all_goals go_wp2
        all_goals go_ret2
        all_goals exact ⟨by rw [E.out]; first | done | rfl, by repeat (first | (with_reducible first | exact HB.out | apply below_alloc | apply pw_below_drewN | apply below_drew1) | (with_reducible refine below_set ?_ (by omega)))⟩
set_option maxHeartbeats 3200000 in
set_option maxRecDepth 100000 in
theorem rScale (m0 m1 m2 m3 m4 m5 : Int) (w : World) :
    Calls Try.prog 22 #[mV m0 m1 m2 m3 m4 m5] w fun e w' => e = .returned (.tuple #[.int .i64 (scaleB m0 m1 m2 m3).1, .int .i64 (scaleB m0 m1 m2 m3).2]) ∧ Below w.heap.size w w' := by
  go_enter Try.func22, Try.ntmps22
  go_upto_region 2 with fail
  have HM := Aside0.mk (show Has _ (w.heap.size) (mC m0 m1 m2 m3 m4 m5) 22 from Has.alloc (Has.new w _ _ rfl) (.cells #[.int .i64 0] 50))
  have HS := Aside0.mk (show Has _ (w.heap.size + 1) #[.int .i64 0] 50 from Has.new (w.alloc (.cells (mC m0 m1 m2 m3 m4 m5) 22)) _ _ (by simp))
  have HB := Aside0.mk (below_alloc (below_alloc (Below.refl w.heap.size w) (.cells (mC m0 m1 m2 m3 m4 m5) 22)) (.cells #[.int .i64 0] 50))
  generalize (w.alloc (.cells (mC m0 m1 m2 m3 m4 m5) 22)).alloc (.cells #[.int .i64 0] 50) = W0 at *
  have c0 : W0.cell? ⟨w.heap.size, 0, none⟩ = some (.int .i64 m0) := HM.out.cell 0
  have c1 : W0.cell? ⟨w.heap.size, 1, none⟩ = some (.int .i64 m1) := HM.out.cell 1
  have c2 : W0.cell? ⟨w.heap.size, 2, none⟩ = some (.int .i64 m2) := HM.out.cell 2
  have c3 : W0.cell? ⟨w.heap.size, 3, none⟩ = some (.int .i64 m3) := HM.out.cell 3
  have c4 : W0.cell? ⟨w.heap.size, 4, none⟩ = some (.int .i64 m4) := HM.out.cell 4
  have c5 : W0.cell? ⟨w.heap.size, 5, none⟩ = some (.int .i64 m5) := HM.out.cell 5
  go_upto_region 3 with (go_at_call 25; ((with_reducible refine (xMulB (w0 := w) (a := m0) (b := m3) (by repeat (first | (with_reducible exact HS.out) | (with_reducible first | apply Has.alloc | apply Has.drewN | apply Has.drew) | (with_reducible refine Has.far ?_ (by dsimp only; omega) _))) (by omega) (by repeat (first | (with_reducible first | exact HB.out | apply below_alloc | apply pw_below_drewN | apply below_drew1) | (with_reducible refine below_set ?_ (by omega))))).mono ?_); rintro e w1 ⟨n1, s1, rfl, En1, hs, hb, hk⟩; have nHM := Aside0.mk (Has.keep (show Has _ (w.heap.size) (mC m0 m1 m2 m3 m4 m5) 22 from by repeat (first | (with_reducible exact HM.out) | (with_reducible first | apply Has.alloc | apply Has.drewN | apply Has.drew) | (with_reducible refine Has.far ?_ (by dsimp only; omega) _))) hk (by omega)); have nHS := Aside0.mk hs; have nHB := Aside0.mk hb; clear hs hb hk HS HB HM  c0 c1 c2 c3 c4 c5; have HS := nHS; clear nHS; have HB := nHB; clear nHB; have HM := nHM; clear nHM; have c0 : w1.cell? ⟨w.heap.size, 0, none⟩ = some (.int .i64 m0) := HM.out.cell 0; have c1 : w1.cell? ⟨w.heap.size, 1, none⟩ = some (.int .i64 m1) := HM.out.cell 1; have c2 : w1.cell? ⟨w.heap.size, 2, none⟩ = some (.int .i64 m2) := HM.out.cell 2; have c3 : w1.cell? ⟨w.heap.size, 3, none⟩ = some (.int .i64 m3) := HM.out.cell 3; have c4 : w1.cell? ⟨w.heap.size, 4, none⟩ = some (.int .i64 m4) := HM.out.cell 4; have c5 : w1.cell? ⟨w.heap.size, 5, none⟩ = some (.int .i64 m5) := HM.out.cell 5; have lS := HS.out.lt; have hS0 : w1.cell? ⟨w.heap.size + 1, 0, none⟩ = some (.int .i64 s1) := HS.out.cell 0; skip))
  go_upto_region 4 with (go_at_call 25; ((with_reducible refine (xMulB (w0 := w) (a := m1) (b := m2) (by repeat (first | (with_reducible exact HS.out) | (with_reducible first | apply Has.alloc | apply Has.drewN | apply Has.drew) | (with_reducible refine Has.far ?_ (by dsimp only; omega) _))) (by omega) (by repeat (first | (with_reducible first | exact HB.out | apply below_alloc | apply pw_below_drewN | apply below_drew1) | (with_reducible refine below_set ?_ (by omega))))).mono ?_); rintro e w2 ⟨n2, s2, rfl, En2, hs, hb, hk⟩; have nHM := Aside0.mk (Has.keep (show Has _ (w.heap.size) (mC m0 m1 m2 m3 m4 m5) 22 from by repeat (first | (with_reducible exact HM.out) | (with_reducible first | apply Has.alloc | apply Has.drewN | apply Has.drew) | (with_reducible refine Has.far ?_ (by dsimp only; omega) _))) hk (by omega)); have nHS := Aside0.mk hs; have nHB := Aside0.mk hb; clear hs hb hk HS HB HM  c0 c1 c2 c3 c4 c5; have HS := nHS; clear nHS; have HB := nHB; clear nHB; have HM := nHM; clear nHM; have c0 : w2.cell? ⟨w.heap.size, 0, none⟩ = some (.int .i64 m0) := HM.out.cell 0; have c1 : w2.cell? ⟨w.heap.size, 1, none⟩ = some (.int .i64 m1) := HM.out.cell 1; have c2 : w2.cell? ⟨w.heap.size, 2, none⟩ = some (.int .i64 m2) := HM.out.cell 2; have c3 : w2.cell? ⟨w.heap.size, 3, none⟩ = some (.int .i64 m3) := HM.out.cell 3; have c4 : w2.cell? ⟨w.heap.size, 4, none⟩ = some (.int .i64 m4) := HM.out.cell 4; have c5 : w2.cell? ⟨w.heap.size, 5, none⟩ = some (.int .i64 m5) := HM.out.cell 5; have lS := HS.out.lt; have hS0 : w2.cell? ⟨w.heap.size + 1, 0, none⟩ = some (.int .i64 s2) := HS.out.cell 0; skip))
  go_upto_region 5 with (go_at_call 32; ((with_reducible refine (xSubB (w0 := w) (a := n1) (b := n2) (by repeat (first | (with_reducible exact HS.out) | (with_reducible first | apply Has.alloc | apply Has.drewN | apply Has.drew) | (with_reducible refine Has.far ?_ (by dsimp only; omega) _))) (by omega) (by repeat (first | (with_reducible first | exact HB.out | apply below_alloc | apply pw_below_drewN | apply below_drew1) | (with_reducible refine below_set ?_ (by omega))))).mono ?_); rintro e w3 ⟨d, sd, rfl, Ed, hs, hb, hk⟩; have nHM := Aside0.mk (Has.keep (show Has _ (w.heap.size) (mC m0 m1 m2 m3 m4 m5) 22 from by repeat (first | (with_reducible exact HM.out) | (with_reducible first | apply Has.alloc | apply Has.drewN | apply Has.drew) | (with_reducible refine Has.far ?_ (by dsimp only; omega) _))) hk (by omega)); have nHS := Aside0.mk hs; have nHB := Aside0.mk hb; clear hs hb hk HS HB HM  c0 c1 c2 c3 c4 c5; have HS := nHS; clear nHS; have HB := nHB; clear nHB; have HM := nHM; clear nHM; have c0 : w3.cell? ⟨w.heap.size, 0, none⟩ = some (.int .i64 m0) := HM.out.cell 0; have c1 : w3.cell? ⟨w.heap.size, 1, none⟩ = some (.int .i64 m1) := HM.out.cell 1; have c2 : w3.cell? ⟨w.heap.size, 2, none⟩ = some (.int .i64 m2) := HM.out.cell 2; have c3 : w3.cell? ⟨w.heap.size, 3, none⟩ = some (.int .i64 m3) := HM.out.cell 3; have c4 : w3.cell? ⟨w.heap.size, 4, none⟩ = some (.int .i64 m4) := HM.out.cell 4; have c5 : w3.cell? ⟨w.heap.size, 5, none⟩ = some (.int .i64 m5) := HM.out.cell 5; have lS := HS.out.lt; have hS0 : w3.cell? ⟨w.heap.size + 1, 0, none⟩ = some (.int .i64 sd) := HS.out.cell 0; skip))
  have Edd := Aside0.mk (show detS 0 m0 m1 m2 m3 = (d, sd) by unfold detS; rw [En1.out]; dsimp only; rw [En2.out]; dsimp only; rw [Ed.out])
  clear En1 En2 Ed
  have Ed := Edd
  clear Edd
  by_cases hs : sd = 0
  · subst hs
    by_cases hd : d < 0
    · have e1 : decide (d < 0) = true := decide_eq_true hd
      go_upto_region 7 with (go_at_call 32; ((with_reducible refine (xSubB (w0 := w) (a := 0) (b := d) (by repeat (first | (with_reducible exact HS.out) | (with_reducible first | apply Has.alloc | apply Has.drewN | apply Has.drew) | (with_reducible refine Has.far ?_ (by dsimp only; omega) _))) (by omega) (by repeat (first | (with_reducible first | exact HB.out | apply below_alloc | apply pw_below_drewN | apply below_drew1) | (with_reducible refine below_set ?_ (by omega))))).mono ?_); rintro e w4 ⟨t, st, rfl, Et, hs, hb, hk⟩; have nHM := Aside0.mk (Has.keep (show Has _ (w.heap.size) (mC m0 m1 m2 m3 m4 m5) 22 from by repeat (first | (with_reducible exact HM.out) | (with_reducible first | apply Has.alloc | apply Has.drewN | apply Has.drew) | (with_reducible refine Has.far ?_ (by dsimp only; omega) _))) hk (by omega)); have nHS := Aside0.mk hs; have nHB := Aside0.mk hb; clear hs hb hk HS HB HM  c0 c1 c2 c3 c4 c5; have HS := nHS; clear nHS; have HB := nHB; clear nHB; have HM := nHM; clear nHM; have c0 : w4.cell? ⟨w.heap.size, 0, none⟩ = some (.int .i64 m0) := HM.out.cell 0; have c1 : w4.cell? ⟨w.heap.size, 1, none⟩ = some (.int .i64 m1) := HM.out.cell 1; have c2 : w4.cell? ⟨w.heap.size, 2, none⟩ = some (.int .i64 m2) := HM.out.cell 2; have c3 : w4.cell? ⟨w.heap.size, 3, none⟩ = some (.int .i64 m3) := HM.out.cell 3; have c4 : w4.cell? ⟨w.heap.size, 4, none⟩ = some (.int .i64 m4) := HM.out.cell 4; have c5 : w4.cell? ⟨w.heap.size, 5, none⟩ = some (.int .i64 m5) := HM.out.cell 5; have lS := HS.out.lt; have hS0 : w4.cell? ⟨w.heap.size + 1, 0, none⟩ = some (.int .i64 st) := HS.out.cell 0; skip))
      by_cases hq : st = 0
      · subst hq
        have E := Aside0.mk (show scaleB m0 m1 m2 m3 = sqrtR t by rw [scaleB_neg Ed.out hd Et.out]; exact if_pos rfl)
        go_wp2_with (go_at_call 36; ((with_reducible refine (rSqrt t _).mono ?_); rintro e wq ⟨rfl, ⟨nd, rfl⟩⟩))
        go_ret2
        exact ⟨by rw [E.out]; first | done | rfl, by repeat (first | (with_reducible first | exact HB.out | apply below_alloc | apply pw_below_drewN | apply below_drew1) | (with_reducible refine below_set ?_ (by omega)))⟩
      · have e5 : (st != 0) = true := bne_iff_ne.mpr hq
        have E := Aside0.mk (show scaleB m0 m1 m2 m3 = (0, st) by rw [scaleB_neg Ed.out hd Et.out]; exact if_neg hq)
        go_wp2
        go_region
        all_goals go_wp2
        all_goals go_ret2
        all_goals exact ⟨by rw [E.out]; first | done | rfl, by repeat (first | (with_reducible first | exact HB.out | apply below_alloc | apply pw_below_drewN | apply below_drew1) | (with_reducible refine below_set ?_ (by omega)))⟩
    · have e1 : decide (d < 0) = false := decide_eq_false hd
      go_upto_region 7 with fail
      have E := Aside0.mk (show scaleB m0 m1 m2 m3 = sqrtR d by exact scaleB_pos Ed.out hd)
      go_wp2_with (go_at_call 36; ((with_reducible refine (rSqrt d _).mono ?_); rintro e wq ⟨rfl, ⟨nd, rfl⟩⟩))
      go_ret2
      exact ⟨by rw [E.out]; first | done | rfl, by repeat (first | (with_reducible first | exact HB.out | apply below_alloc | apply pw_below_drewN | apply below_drew1) | (with_reducible refine below_set ?_ (by omega)))⟩
  · have e1 : (sd == 0) = false := beq_eq_false_iff_ne.mpr hs
    have e5 : (sd != 0) = true := bne_iff_ne.mpr hs
    have E := Aside0.mk (show scaleB m0 m1 m2 m3 = (0, sd) by exact scaleB_err Ed.out hs)
    go_wp2
    go_region
    all_goals go_wp2
    all_goals go_ret2
    all_goals exact ⟨by rw [E.out]; first | done | rfl, by repeat (first | (with_reducible first | exact HB.out | apply below_alloc | apply pw_below_drewN | apply below_drew1) | (with_reducible refine below_set ?_ (by omega)))⟩
end Go.Proofs.Ytkggogbgnphmpaa.MatA
