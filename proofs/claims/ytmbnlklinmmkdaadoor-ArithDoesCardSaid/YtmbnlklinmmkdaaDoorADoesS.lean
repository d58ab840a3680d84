import Derived.Test.YtmbnlklinmmkdaaDoorADoes
namespace Go.Proofs.YtmbnlklinmmkdaaDoor.One
open Go.RowKit Go.Proofs.YtmbnlklinmmkdaaDoorW.PrintWords Go.Proofs.YtmbnlklinmmkdaaDoorW.PrintLast Go.Proofs.YtmbnlklinmmkdaaDoorW.PrintMore
open Go.Proofs.YtmbnlklinmmkdaaDoor.Ref Go.Proofs.YtmbnlklinmmkdaaDoor.Sem Go.Proofs.YtmbnlklinmmkdaaDoor.Base Go.Proofs.YtmbnlklinmmkdaaDoor.Pure Go.Proofs.YtmbnlklinmmkdaaDoor.Leaf Go.Proofs.YtmbnlklinmmkdaaDoor.Turns Go.Proofs.YtmbnlklinmmkdaaDoor.MatA Go.Proofs.YtmbnlklinmmkdaaDoor.PArithDoes
set_option linter.unusedVariables false
set_option maxHeartbeats 1600000 in
set_option maxRecDepth 100000 in
theorem doesLong (nm : ByteArray) (A : Option Addr) (len c : Nat) (w : World) (z : Int) (b : Bool) (hk0 : arith_Known.f 1 nm = some (z, b)) (h : decide ((nm.size : Int) > 1000) = true ∨ (decide ((nm.size : Int) > 1000) = false ∧ decide ((len : Int) > 100) = true)) :
    Calls Tryd.prog 3 #[.string nm, .slice A len c] w (fun e w' => e = .returned (.bool true) ∧ Below w.heap.size w w') := by
  have HK := Aside0.mk hk0
  clear hk0
  have HB := Aside0.mk (Below.refl w.heap.size w)
  rcases h with h | ⟨h, h'⟩
  · go_enter Tryd.func3, Tryd.ntmps3
    go_wp2_with (first | (go_at_call 7; ((with_reducible refine (arith_Known.calls 1 nm _ _ _ HK.out).mono ?_); rintro e w0 ⟨rfl, hd⟩; have hb0 := Aside0.mk (show Below w.heap.size w w0 from by obtain ⟨nd, rfl⟩ := hd; exact pw_below_drewN HB.out _); clear hd HB; have HB := hb0; clear hb0; skip)) | (go_at_call 8; ((with_reducible refine (cAnswers _).mono ?_); rintro e w1 ⟨rfl, hb⟩; have nHB := Aside0.mk (below_step (w := w) (by repeat (first | (with_reducible first | exact HB.out | apply below_alloc | apply pw_below_drewN | apply below_drew1) | (with_reducible refine below_set ?_ ?_) | omega)) hb); clear hb; clear HB; have HB := nHB; clear nHB; skip)))
    go_ret
    exact ⟨rfl, HB.out⟩
  · go_enter Tryd.func3, Tryd.ntmps3
    go_wp2_with (first | (go_at_call 7; ((with_reducible refine (arith_Known.calls 1 nm _ _ _ HK.out).mono ?_); rintro e w0 ⟨rfl, hd⟩; have hb0 := Aside0.mk (show Below w.heap.size w w0 from by obtain ⟨nd, rfl⟩ := hd; exact pw_below_drewN HB.out _); clear hd HB; have HB := hb0; clear hb0; skip)) | (go_at_call 8; ((with_reducible refine (cAnswers _).mono ?_); rintro e w1 ⟨rfl, hb⟩; have nHB := Aside0.mk (below_step (w := w) (by repeat (first | (with_reducible first | exact HB.out | apply below_alloc | apply pw_below_drewN | apply below_drew1) | (with_reducible refine below_set ?_ ?_) | omega)) hb); clear hb; clear HB; have HB := nHB; clear nHB; skip)))
    go_ret
    exact ⟨rfl, HB.out⟩
set_option maxHeartbeats 1600000 in
set_option maxRecDepth 100000 in
theorem doesNil (nm : ByteArray) (w : World) (z : Int) (b : Bool) (hk0 : arith_Known.f 1 nm = some (z, b)) (hc0 : mezzotintlaw08_count.f 1 nm = some z)  (h3 : (z = 0 ∧ b = false) ∨ (z = 1 ∧ b = true) ∨ (z = 2 ∧ b = true)) (h : decide ((nm.size : Int) > 1000) = false) :
    Calls Tryd.prog 3 #[.string nm, .slice none 0 0] w (fun e w' => e = .returned (.bool true) ∧ Below w.heap.size w w') := by
  have HK := Aside0.mk hk0
  have HC := Aside0.mk hc0
  clear hk0 hc0
  have HB := Aside0.mk (Below.refl w.heap.size w)
  rcases h3 with ⟨rfl, rfl⟩ | ⟨rfl, rfl⟩ | ⟨rfl, rfl⟩
  all_goals
    go_enter Tryd.func3, Tryd.ntmps3
    go_wp2_with (first | (go_at_call 7; ((with_reducible refine (arith_Known.calls 1 nm _ _ _ HK.out).mono ?_); rintro e w0 ⟨rfl, hd⟩; have hb0 := Aside0.mk (show Below w.heap.size w w0 from by obtain ⟨nd, rfl⟩ := hd; exact pw_below_drewN HB.out _); clear hd HB; have HB := hb0; clear hb0; skip)) | (go_at_call 8; ((with_reducible refine (cAnswers _).mono ?_); rintro e w1 ⟨rfl, hb⟩; have nHB := Aside0.mk (below_step (w := w) (by repeat (first | (with_reducible first | exact HB.out | apply below_alloc | apply pw_below_drewN | apply below_drew1) | (with_reducible refine below_set ?_ ?_) | omega)) hb); clear hb; clear HB; have HB := nHB; clear nHB; skip)) | (go_at_call 9; ((with_reducible refine (mezzotintlaw08_count.calls 1 nm _ _ HC.out).mono ?_); rintro e w2 ⟨rfl, hd⟩; have hb0 := Aside0.mk (show Below w.heap.size w w2 from by obtain ⟨nd, rfl⟩ := hd; exact pw_below_drewN HB.out _); clear hd HB; have HB := hb0; clear hb0; skip)) | (go_at_call 10; ((with_reducible refine (cDoNo nm _ _ _ _ _ _ HK.out (by decide) (by first | exact Or.inl rfl | exact Or.inr (by decide))).mono ?_); rintro e w3 ⟨rfl, hb⟩; have nHB := Aside0.mk (below_step (w := w) (by repeat (first | (with_reducible first | exact HB.out | apply below_alloc | apply pw_below_drewN | apply below_drew1) | (with_reducible refine below_set ?_ ?_) | omega)) hb); clear hb; clear HB; have HB := nHB; clear nHB; skip)))
    go_ret
    exact ⟨rfl, HB.out⟩
set_option maxHeartbeats 1600000 in
set_option maxRecDepth 100000 in
theorem doesSome (nm : ByteArray) (ad : Addr) (m c : Nat) (news : List Value) (w : World) (z : Int) (b : Bool) (hk0 : arith_Known.f 1 nm = some (z, b)) (hc0 : mezzotintlaw08_count.f 1 nm = some z)  (h3 : (z = 0 ∧ b = false) ∨ (z = 1 ∧ b = true) ∨ (z = 2 ∧ b = true)) (h : decide ((nm.size : Int) > 1000) = false) (hm : decide ((m : Int) > 100) = false) (hne : z = 0 ∨ z ≠ (m : Int))
    (hl : news.length = m * 8) (hs : ∀ j u, news[j]? = some u → w.cell? (ad.add j) = some u) (h1 : ∀ u ∈ news, u.oneCell' = true) :
    Calls Tryd.prog 3 #[.string nm, .slice (some ad) m c] w (fun e w' => e = .returned (.bool true) ∧ Below w.heap.size w w') := by
  have HK := Aside0.mk hk0
  have HC := Aside0.mk hc0
  clear hk0 hc0
  have HB := Aside0.mk (Below.refl w.heap.size w)
  obtain ⟨i0, hi0, hz0, hz1, hz2⟩ := info_parts obj_info
  have I0 := Aside0.mk (And.intro hi0 (And.intro hz0 (And.intro hz1 hz2)))
  clear hi0 hz0 hz1 hz2
  have hm0 : m ≤ 100 := by have := of_decide_eq_false hm; omega
  have M := Aside0.mk hm0
  have HL := Aside0.mk hl
  have HS := Aside0.mk hs
  have H1 := Aside0.mk h1
  have HN := Aside0.mk hne
  clear hm0 hl hs h1 hne
  rcases h3 with ⟨rfl, rfl⟩ | ⟨rfl, rfl⟩ | ⟨rfl, rfl⟩
  all_goals
    go_enter Tryd.func3, Tryd.ntmps3
    try (have e2 : ((1 : Int) != (m : Int)) = true := bne_iff_ne.mpr (by have := HN.out; omega))
    try (have e2 : ((2 : Int) != (m : Int)) = true := bne_iff_ne.mpr (by have := HN.out; omega))
    go_wp2_with (first | (go_at_call 7; ((with_reducible refine (arith_Known.calls 1 nm _ _ _ HK.out).mono ?_); rintro e w0 ⟨rfl, hd⟩; have hb0 := Aside0.mk (show Below w.heap.size w w0 from by obtain ⟨nd, rfl⟩ := hd; exact pw_below_drewN HB.out _); clear hd HB; have HB := hb0; clear hb0; skip)) | (go_at_call 8; ((with_reducible refine (cAnswers _).mono ?_); rintro e w1 ⟨rfl, hb⟩; have nHB := Aside0.mk (below_step (w := w) (by repeat (first | (with_reducible first | exact HB.out | apply below_alloc | apply pw_below_drewN | apply below_drew1) | (with_reducible refine below_set ?_ ?_) | omega)) hb); clear hb; clear HB; have HB := nHB; clear nHB; skip)) | (go_at_call 9; ((with_reducible refine (mezzotintlaw08_count.calls 1 nm _ _ HC.out).mono ?_); rintro e w2 ⟨rfl, hd⟩; have hb0 := Aside0.mk (show Below w.heap.size w w2 from by obtain ⟨nd, rfl⟩ := hd; exact pw_below_drewN HB.out _); clear hd HB; have HB := hb0; clear hb0; skip)) | (at_builtin; go_loud (refine wpList_append_own _ rfl (.tmp 56) (.tmp 57) 22 rfl w.heap.size 38 i0 _ 8 72 Tryd.underlying22 I0.out.1 I0.out.2.1 I0.out.2.2.1 I0.out.2.2.2 rfl (by decide) _ 0 [] rfl (World.ownsRow_made _ #[] 0 (HB.out.size) (by decide) rfl) (ad) m c (news) rfl (by rw [HL.out]) (fun j u hj => (cell_alloc _ (((HB.out).cell (cell_lt (HS.out j u hj))).trans (HS.out j u hj)))) H1.out (by have := M.out; unfold maxLen; omega) (by have := M.out; omega) (by have := HB.out.size; simp; omega) ?_); intro v1 w3 hown hgr hnn; have nHB := Aside0.mk (Below.grown (show Below w.heap.size w _ from (by repeat (first | (with_reducible first | exact HB.out | apply below_alloc | apply pw_below_drewN | apply below_drew1) | (with_reducible refine below_set ?_ ?_) | omega))) hgr (by have := HB.out.size; simp; omega) (fun k hk => by cases hk; exact HB.out.size)); have HO := Aside0.mk hown; clear hown hgr hnn HB; have HB := nHB; clear nHB; skip) | (go_at_call 10; obtain ⟨A1, c1, e1⟩ := own_form HO.out; subst e1; ((with_reducible refine (cDoNo nm _ _ _ _ _ _ HK.out (by have := M.out; omega) (by first | exact Or.inl rfl | exact Or.inr (by have := HN.out; omega))).mono ?_); rintro e w4 ⟨rfl, hb⟩; have nHB := Aside0.mk (below_step (w := w) (by repeat (first | (with_reducible first | exact HB.out | apply below_alloc | apply pw_below_drewN | apply below_drew1) | (with_reducible refine below_set ?_ ?_) | omega)) hb); clear hb; clear HB; have HB := nHB; clear nHB; skip)))
    go_ret
    exact ⟨rfl, HB.out⟩
end Go.Proofs.YtmbnlklinmmkdaaDoor.One
