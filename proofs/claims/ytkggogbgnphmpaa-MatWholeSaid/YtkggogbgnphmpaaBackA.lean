/- The walks of the program's functions that lead back: the determinant, the inverse and the scale are what the plain text says. -/
import Derived.Test.YtkggogbgnphmpaaMatB
import Derived.Test.YtkggogbgnphmpaaBase2
import Derived.Deep.RegionHeld3
import Derived.Laws.ResultCell
import Derived.Outline
namespace Go.Proofs.Ytkggogbgnphmpaa.MatA
open Go.RowKit Go.Proofs.YtkggogbgnphmpaaW.PrintWords Go.Proofs.YtkggogbgnphmpaaW.PrintLast Go.Proofs.YtkggogbgnphmpaaW.PrintMore
open Go.Proofs.Ytkggogbgnphmpaa.Sem Go.Proofs.Ytkggogbgnphmpaa.Base

theorem xMulA {g : Nat} {s a b : Int} {w0 W : World} (hI : Has W g #[.int .i64 s] 46) (hg : w0.heap.size ≤ g) (hB : Below w0.heap.size w0 W) :
    Calls Try.prog 30 #[.pointer (some ⟨g, 0, none⟩), .int .i64 a, .int .i64 b] W fun e w' => ∃ n s' : Int, e = .returned (.int .i64 n) ∧ Aside0 (mulS s a b = (n, s')) ∧ Has w' g #[.int .i64 s'] 46 ∧ Below w0.heap.size w0 w' ∧ KeepBut W w' g none :=
  (csMul hI hg hB).mono fun _ _ ⟨h1, h2, h3, h4⟩ => ⟨_, _, h1, ⟨rfl⟩, h2, h3, h4⟩
theorem xDivA {g : Nat} {s a b : Int} {w0 W : World} (hI : Has W g #[.int .i64 s] 46) (hg : w0.heap.size ≤ g) (hB : Below w0.heap.size w0 W) :
    Calls Try.prog 28 #[.pointer (some ⟨g, 0, none⟩), .int .i64 a, .int .i64 b] W fun e w' => ∃ n s' : Int, e = .returned (.int .i64 n) ∧ Aside0 (divS s a b = (n, s')) ∧ Has w' g #[.int .i64 s'] 46 ∧ Below w0.heap.size w0 w' ∧ KeepBut W w' g none :=
  (csDiv hI hg hB).mono fun _ _ ⟨h1, h2, h3, h4⟩ => ⟨_, _, h1, ⟨rfl⟩, h2, h3, h4⟩
theorem xSubA {g : Nat} {s a b : Int} {w0 W : World} (hI : Has W g #[.int .i64 s] 46) (hg : w0.heap.size ≤ g) (hB : Below w0.heap.size w0 W) :
    Calls Try.prog 29 #[.pointer (some ⟨g, 0, none⟩), .int .i64 a, .int .i64 b] W fun e w' => ∃ n s' : Int, e = .returned (.int .i64 n) ∧ Aside0 (subS s a b = (n, s')) ∧ Has w' g #[.int .i64 s'] 46 ∧ Below w0.heap.size w0 w' ∧ KeepBut W w' g none :=
  (csSub hI hg hB).mono fun _ _ ⟨h1, h2, h3, h4⟩ => ⟨_, _, h1, ⟨rfl⟩, h2, h3, h4⟩
theorem xTookA {g : Nat} {s a b : Int} {w0 W : World} (hI : Has W g #[.int .i64 s] 46) (hg : w0.heap.size ≤ g) (hB : Below w0.heap.size w0 W) :
    Calls Try.prog 34 #[.pointer (some ⟨g, 0, none⟩), .int .i64 a, .int .i64 b] W fun e w' => ∃ n s' : Int, e = .returned (.int .i64 n) ∧ Aside0 (tk s (a, b) = (n, s')) ∧ Has w' g #[.int .i64 s'] 46 ∧ Below w0.heap.size w0 w' ∧ KeepBut W w' g none :=
  (csTook hI hg hB).mono fun _ _ ⟨h1, h2, h3, h4⟩ => ⟨_, _, h1, ⟨rfl⟩, h2, h3, h4⟩

set_option maxHeartbeats 3200000 in
set_option maxRecDepth 100000 in
theorem cDetA {g : Nat} {s m0 m1 m2 m3 m4 m5 : Int} {w0 W : World} (hI : Has W g #[.int .i64 s] 46) (hg : w0.heap.size ≤ g) (hB : Below w0.heap.size w0 W) :
    Calls Try.prog 27 #[.pointer (some ⟨g, 0, none⟩), mV m0 m1 m2 m3 m4 m5] W fun e w' => ∃ n s' : Int, e = .returned (.int .i64 n) ∧ Aside0 (detS s m0 m1 m2 m3 = (n, s')) ∧ Has w' g #[.int .i64 s'] 46 ∧ Below w0.heap.size w0 w' ∧ KeepBut W w' g none := by
  go_enter Try.func27, Try.ntmps27
  have hlt := hI.lt
  have hgm := hB.size
  go_upto_region 1 with fail
  have HS := Aside0.mk (hI.alloc (.cells (mC m0 m1 m2 m3 m4 m5) 22))
  have HM := Aside0.mk (Has.new W (mC m0 m1 m2 m3 m4 m5) 22 rfl)
  have HB := Aside0.mk (below_alloc hB (.cells (mC m0 m1 m2 m3 m4 m5) 22))
  have HK := Aside0.mk (keep_alloc (KeepBut.refl W g none) (.cells (mC m0 m1 m2 m3 m4 m5) 22))
  clear hI hB
  generalize W.alloc (.cells (mC m0 m1 m2 m3 m4 m5) 22) = W1 at *
  have c0 : W1.cell? ⟨W.heap.size, 0, none⟩ = some (.int .i64 m0) := HM.out.cell 0
  have c1 : W1.cell? ⟨W.heap.size, 1, none⟩ = some (.int .i64 m1) := HM.out.cell 1
  have c2 : W1.cell? ⟨W.heap.size, 2, none⟩ = some (.int .i64 m2) := HM.out.cell 2
  have c3 : W1.cell? ⟨W.heap.size, 3, none⟩ = some (.int .i64 m3) := HM.out.cell 3
  have c4 : W1.cell? ⟨W.heap.size, 4, none⟩ = some (.int .i64 m4) := HM.out.cell 4
  have c5 : W1.cell? ⟨W.heap.size, 5, none⟩ = some (.int .i64 m5) := HM.out.cell 5
  go_region_held3 (fun w' => w'.cell? ⟨W.heap.size, 0, none⟩ = some (.int .i64 m0) ∧ w'.cell? ⟨W.heap.size, 1, none⟩ = some (.int .i64 m1) ∧ w'.cell? ⟨W.heap.size, 2, none⟩ = some (.int .i64 m2) ∧ w'.cell? ⟨W.heap.size, 3, none⟩ = some (.int .i64 m3)) (first | (with_reducible exact ⟨c0, c1, c2, c3⟩) | go_keep) (first | (go_at_call 30; ((with_reducible refine (xMulA (w0 := w0) (a := m0) (b := m3) (by repeat (first | (with_reducible exact HS.out) | (with_reducible first | apply Has.alloc | apply Has.drewN | apply Has.drew) | (with_reducible refine Has.far ?_ (by dsimp only; omega) _))) (by omega) (by repeat (first | (with_reducible first | exact HB.out | apply below_alloc | apply pw_below_drewN | apply below_drew1) | (with_reducible refine below_set ?_ (by omega))))).mono ?_); rintro e w1 ⟨n1, s1, rfl, En1, hs, hb, hk⟩; have nHM := Aside0.mk (Has.keep (show Has _ (W.heap.size) (mC m0 m1 m2 m3 m4 m5) 22 from by repeat (first | (with_reducible exact HM.out) | (with_reducible first | apply Has.alloc | apply Has.drewN | apply Has.drew) | (with_reducible refine Has.far ?_ (by dsimp only; omega) _))) hk (by omega)); have nHS := Aside0.mk hs; have nHB := Aside0.mk hb; have nHK := Aside0.mk (KeepBut.trans (by repeat (first | (with_reducible first | exact HK.out | apply keep_alloc | apply keep_drewN | apply keep_drew))) hk (.inl rfl)); clear hs hb hk HS HB HM HK c0 c1 c2 c3 c4 c5; have HS := nHS; clear nHS; have HB := nHB; clear nHB; have HM := nHM; clear nHM; have HK := nHK; clear nHK; have c0 : w1.cell? ⟨W.heap.size, 0, none⟩ = some (.int .i64 m0) := HM.out.cell 0; have c1 : w1.cell? ⟨W.heap.size, 1, none⟩ = some (.int .i64 m1) := HM.out.cell 1; have c2 : w1.cell? ⟨W.heap.size, 2, none⟩ = some (.int .i64 m2) := HM.out.cell 2; have c3 : w1.cell? ⟨W.heap.size, 3, none⟩ = some (.int .i64 m3) := HM.out.cell 3; have c4 : w1.cell? ⟨W.heap.size, 4, none⟩ = some (.int .i64 m4) := HM.out.cell 4; have c5 : w1.cell? ⟨W.heap.size, 5, none⟩ = some (.int .i64 m5) := HM.out.cell 5; have lS := HS.out.lt; have hS0 : w1.cell? ⟨g, 0, none⟩ = some (.int .i64 s1) := HS.out.cell 0; skip)) | (go_at_call 30; ((with_reducible refine (xMulA (w0 := w0) (a := m1) (b := m2) (by repeat (first | (with_reducible exact HS.out) | (with_reducible first | apply Has.alloc | apply Has.drewN | apply Has.drew) | (with_reducible refine Has.far ?_ (by dsimp only; omega) _))) (by omega) (by repeat (first | (with_reducible first | exact HB.out | apply below_alloc | apply pw_below_drewN | apply below_drew1) | (with_reducible refine below_set ?_ (by omega))))).mono ?_); rintro e w2 ⟨n2, s2, rfl, En2, hs, hb, hk⟩; have nHM := Aside0.mk (Has.keep (show Has _ (W.heap.size) (mC m0 m1 m2 m3 m4 m5) 22 from by repeat (first | (with_reducible exact HM.out) | (with_reducible first | apply Has.alloc | apply Has.drewN | apply Has.drew) | (with_reducible refine Has.far ?_ (by dsimp only; omega) _))) hk (by omega)); have nHS := Aside0.mk hs; have nHB := Aside0.mk hb; have nHK := Aside0.mk (KeepBut.trans (by repeat (first | (with_reducible first | exact HK.out | apply keep_alloc | apply keep_drewN | apply keep_drew))) hk (.inl rfl)); clear hs hb hk HS HB HM HK c0 c1 c2 c3 c4 c5; have HS := nHS; clear nHS; have HB := nHB; clear nHB; have HM := nHM; clear nHM; have HK := nHK; clear nHK; have c0 : w2.cell? ⟨W.heap.size, 0, none⟩ = some (.int .i64 m0) := HM.out.cell 0; have c1 : w2.cell? ⟨W.heap.size, 1, none⟩ = some (.int .i64 m1) := HM.out.cell 1; have c2 : w2.cell? ⟨W.heap.size, 2, none⟩ = some (.int .i64 m2) := HM.out.cell 2; have c3 : w2.cell? ⟨W.heap.size, 3, none⟩ = some (.int .i64 m3) := HM.out.cell 3; have c4 : w2.cell? ⟨W.heap.size, 4, none⟩ = some (.int .i64 m4) := HM.out.cell 4; have c5 : w2.cell? ⟨W.heap.size, 5, none⟩ = some (.int .i64 m5) := HM.out.cell 5; have lS := HS.out.lt; have hS0 : w2.cell? ⟨g, 0, none⟩ = some (.int .i64 s2) := HS.out.cell 0; skip)))
  go_wp2_with (go_at_call 29; ((with_reducible refine (xSubA (w0 := w0) (a := n1) (b := n2) (by repeat (first | (with_reducible exact HS.out) | (with_reducible first | apply Has.alloc | apply Has.drewN | apply Has.drew) | (with_reducible refine Has.far ?_ (by dsimp only; omega) _))) (by omega) (by repeat (first | (with_reducible first | exact HB.out | apply below_alloc | apply pw_below_drewN | apply below_drew1) | (with_reducible refine below_set ?_ (by omega))))).mono ?_); rintro e w3 ⟨n3, s3, rfl, En3, hs, hb, hk⟩; have nHM := Aside0.mk (Has.keep (show Has _ (W.heap.size) (mC m0 m1 m2 m3 m4 m5) 22 from by repeat (first | (with_reducible exact HM.out) | (with_reducible first | apply Has.alloc | apply Has.drewN | apply Has.drew) | (with_reducible refine Has.far ?_ (by dsimp only; omega) _))) hk (by omega)); have nHS := Aside0.mk hs; have nHB := Aside0.mk hb; have nHK := Aside0.mk (KeepBut.trans (by repeat (first | (with_reducible first | exact HK.out | apply keep_alloc | apply keep_drewN | apply keep_drew))) hk (.inl rfl)); clear hs hb hk HS HB HM HK c0 c1 c2 c3 c4 c5; have HS := nHS; clear nHS; have HB := nHB; clear nHB; have HM := nHM; clear nHM; have HK := nHK; clear nHK; have c0 : w3.cell? ⟨W.heap.size, 0, none⟩ = some (.int .i64 m0) := HM.out.cell 0; have c1 : w3.cell? ⟨W.heap.size, 1, none⟩ = some (.int .i64 m1) := HM.out.cell 1; have c2 : w3.cell? ⟨W.heap.size, 2, none⟩ = some (.int .i64 m2) := HM.out.cell 2; have c3 : w3.cell? ⟨W.heap.size, 3, none⟩ = some (.int .i64 m3) := HM.out.cell 3; have c4 : w3.cell? ⟨W.heap.size, 4, none⟩ = some (.int .i64 m4) := HM.out.cell 4; have c5 : w3.cell? ⟨W.heap.size, 5, none⟩ = some (.int .i64 m5) := HM.out.cell 5; have lS := HS.out.lt; have hS0 : w3.cell? ⟨g, 0, none⟩ = some (.int .i64 s3) := HS.out.cell 0; skip))
  go_ret
  exact ⟨n3, s3, rfl, ⟨by unfold detS; rw [En1.out]; dsimp only; rw [En2.out]; dsimp only; rw [En3.out]⟩, HS.out, HB.out, HK.out⟩

/-- The numbers of a matrix, if there is no error. -/
def finM (s m0 m1 m2 m3 m4 m5 : Int) : R6 := if s = 0 then ⟨m0, m1, m2, m3, m4, m5, 0⟩ else zero6 s
set_option maxHeartbeats 3200000 in
set_option maxRecDepth 100000 in
theorem cMatrix (g : Nat) (s m0 m1 m2 m3 m4 m5 : Int) (w : World) (hI : Has w g #[.int .i64 s] 46) :
    Calls Try.prog 31 #[.pointer (some ⟨g, 0, none⟩), mV m0 m1 m2 m3 m4 m5] w fun e w' => e = .returned (r6V (finM s m0 m1 m2 m3 m4 m5)) ∧ Below w.heap.size w w' := by
  have hlt := hI.lt
  have hne : (g == w.heap.size) = false := by simp; omega
  have hne2 : g ≠ w.heap.size := by omega
  have hne3 : g ≠ w.heap.size + 1 := by omega
  go_enter Try.func31, Try.ntmps31
  go_upto_region 1 with fail
  have HS := Aside0.mk ((hI.alloc (.cells (mC m0 m1 m2 m3 m4 m5) 22)).alloc (.cells (mC 0 0 0 0 0 0) 22))
  have HM := Aside0.mk (Has.alloc (Has.new w (mC m0 m1 m2 m3 m4 m5) 22 rfl) (.cells (mC 0 0 0 0 0 0) 22))
  have HR := Aside0.mk (show Has _ (w.heap.size + 1) (mC 0 0 0 0 0 0) 22 from Has.new (w.alloc (.cells (mC m0 m1 m2 m3 m4 m5) 22)) _ _ (by simp))
  have HB := Aside0.mk (below_alloc (below_alloc (Below.refl w.heap.size w) (.cells (mC m0 m1 m2 m3 m4 m5) 22)) (.cells (mC 0 0 0 0 0 0) 22))
  clear hI
  generalize (w.alloc (.cells (mC m0 m1 m2 m3 m4 m5) 22)).alloc (.cells (mC 0 0 0 0 0 0) 22) = W1 at *
  have c0 : W1.cell? ⟨w.heap.size, 0, none⟩ = some (.int .i64 m0) := HM.out.cell 0
  have c1 : W1.cell? ⟨w.heap.size, 1, none⟩ = some (.int .i64 m1) := HM.out.cell 1
  have c2 : W1.cell? ⟨w.heap.size, 2, none⟩ = some (.int .i64 m2) := HM.out.cell 2
  have c3 : W1.cell? ⟨w.heap.size, 3, none⟩ = some (.int .i64 m3) := HM.out.cell 3
  have c4 : W1.cell? ⟨w.heap.size, 4, none⟩ = some (.int .i64 m4) := HM.out.cell 4
  have c5 : W1.cell? ⟨w.heap.size, 5, none⟩ = some (.int .i64 m5) := HM.out.cell 5
  have r0 : W1.cell? ⟨w.heap.size + 1, 0, none⟩ = some (.int .i64 0) := HR.out.cell 0
  have fr0 : W1.frozen? ⟨w.heap.size + 1, 0, none⟩ = false := HR.out.free 0
  have r1 : W1.cell? ⟨w.heap.size + 1, 1, none⟩ = some (.int .i64 0) := HR.out.cell 1
  have fr1 : W1.frozen? ⟨w.heap.size + 1, 1, none⟩ = false := HR.out.free 1
  have r2 : W1.cell? ⟨w.heap.size + 1, 2, none⟩ = some (.int .i64 0) := HR.out.cell 2
  have fr2 : W1.frozen? ⟨w.heap.size + 1, 2, none⟩ = false := HR.out.free 2
  have r3 : W1.cell? ⟨w.heap.size + 1, 3, none⟩ = some (.int .i64 0) := HR.out.cell 3
  have fr3 : W1.frozen? ⟨w.heap.size + 1, 3, none⟩ = false := HR.out.free 3
  have r4 : W1.cell? ⟨w.heap.size + 1, 4, none⟩ = some (.int .i64 0) := HR.out.cell 4
  have fr4 : W1.frozen? ⟨w.heap.size + 1, 4, none⟩ = false := HR.out.free 4
  have r5 : W1.cell? ⟨w.heap.size + 1, 5, none⟩ = some (.int .i64 0) := HR.out.cell 5
  have fr5 : W1.frozen? ⟨w.heap.size + 1, 5, none⟩ = false := HR.out.free 5
  have s0 : W1.cell? ⟨g, 0, none⟩ = some (.int .i64 s) := HS.out.cell 0
  by_cases hs : s = 0
  · subst hs
    go_wp2
    exact bodyPost_ret (out6 Try.results31 (v0 := m0) (v1 := m1) (v2 := m2) (v3 := m3) (v4 := m4) (v5 := m5) (e := 0) rfl rfl (by repeat (first | (with_reducible exact (Has.set (Has.set (Has.set (Has.set (Has.set (Has.set HR.out 0 (.int .i64 m0)) 1 (.int .i64 m1)) 2 (.int .i64 m2)) 3 (.int .i64 m3)) 4 (.int .i64 m4)) 5 (.int .i64 m5))) | (with_reducible first | apply Has.drew | apply Has.drewN) | exact (Has.set (Has.set (Has.set (Has.set (Has.set (Has.set HR.out 0 (.int .i64 m0)) 1 (.int .i64 m1)) 2 (.int .i64 m2)) 3 (.int .i64 m3)) 4 (.int .i64 m4)) 5 (.int .i64 m5))))) rfl ⟨rfl, by repeat (first | (with_reducible first | exact HB.out | apply below_alloc | apply pw_below_drewN | apply below_drew1) | (with_reducible refine below_set ?_ (by omega)))⟩
  · have E := Aside0.mk (show finM s m0 m1 m2 m3 m4 m5 = zero6 s by unfold finM; rw [if_neg hs])
    have e1 : (s == 0) = false := beq_eq_false_iff_ne.mpr hs
    have e2 : (s != 0) = true := bne_iff_ne.mpr hs
    clear hs
    go_wp2
    go_region
    all_goals go_wp2
    all_goals exact bodyPost_ret (out6 Try.results31 (v0 := 0) (v1 := 0) (v2 := 0) (v3 := 0) (v4 := 0) (v5 := 0) (e := s) rfl rfl (by repeat (first | (with_reducible exact (Has.set (Has.set (Has.set (Has.set (Has.set (Has.set HR.out 0 (.int .i64 0)) 1 (.int .i64 0)) 2 (.int .i64 0)) 3 (.int .i64 0)) 4 (.int .i64 0)) 5 (.int .i64 0))) | (with_reducible first | apply Has.drew | apply Has.drewN) | exact (Has.set (Has.set (Has.set (Has.set (Has.set (Has.set HR.out 0 (.int .i64 0)) 1 (.int .i64 0)) 2 (.int .i64 0)) 3 (.int .i64 0)) 4 (.int .i64 0)) 5 (.int .i64 0))))) rfl ⟨by rw [E.out]; rfl, by repeat (first | (with_reducible first | exact HB.out | apply below_alloc | apply pw_below_drewN | apply below_drew1) | (with_reducible refine below_set ?_ (by omega)))⟩

end Go.Proofs.Ytkggogbgnphmpaa.MatA
