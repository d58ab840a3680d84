import Derived.Test.YtmbnlklinmmkdaaDoorADo
namespace Go.Proofs.YtmbnlklinmmkdaaDoor.One
open Go.RowKit Go.Proofs.YtmbnlklinmmkdaaDoorW.PrintWords Go.Proofs.YtmbnlklinmmkdaaDoorW.PrintLast Go.Proofs.YtmbnlklinmmkdaaDoorW.PrintMore
open Go.Proofs.YtmbnlklinmmkdaaDoor.Sem Go.Proofs.YtmbnlklinmmkdaaDoor.Base Go.Proofs.YtmbnlklinmmkdaaDoor.Pure Go.Proofs.YtmbnlklinmmkdaaDoor.Leaf Go.Proofs.YtmbnlklinmmkdaaDoor.Turns Go.Proofs.YtmbnlklinmmkdaaDoor.MatA Go.Proofs.YtmbnlklinmmkdaaDoor.PArithDoes
set_option linter.unusedVariables false
theorem doBi (o : Bi) (nm : ByteArray) (hm : nm.toList = o.name) (B c : Nat) (k : Int) (x : Bool) (a n : Int) (s : ByteArray) (r f l : Int) (j : Int) (y : Bool) (b m : Int) (t : ByteArray) (r2 f2 l2 : Int) (w : World) (hc : 2 ≤ c) (hs : Rd w B (o2C k x a n s r f l j y b m t r2 f2 l2)) (p : R3) (hp : F2 o k n j m = p) (h : p.e = 0) :
    Calls Tryd.prog 10 #[.string nm, .slice (some ⟨B, 0, none⟩) 2 c] w (Got w p) := by
  subst hp; exact cDo2Ok nm B c k x a n s r f l j y b m t r2 f2 l2 w (known_bi o hm) hc hs _ h (fun W _ => cTwo o nm k x a n s r f l j y b m t r2 f2 l2 W hm)
theorem doBiNo (o : Bi) (nm : ByteArray) (hm : nm.toList = o.name) (B c : Nat) (k : Int) (x : Bool) (a n : Int) (s : ByteArray) (r f l : Int) (j : Int) (y : Bool) (b m : Int) (t : ByteArray) (r2 f2 l2 : Int) (w : World) (hc : 2 ≤ c) (hs : Rd w B (o2C k x a n s r f l j y b m t r2 f2 l2)) (p : R3) (hp : F2 o k n j m = p) (h : p.e ≠ 0) :
    Calls Tryd.prog 10 #[.string nm, .slice (some ⟨B, 0, none⟩) 2 c] w (Fails w p.e) := by
  subst hp; exact cDo2No nm B c k x a n s r f l j y b m t r2 f2 l2 w (known_bi o hm) hc hs _ h (fun W _ => cTwo o nm k x a n s r f l j y b m t r2 f2 l2 W hm)
theorem doUn (u : Un) (nm : ByteArray) (hm : nm.toList = u.name) (B c : Nat) (k : Int) (x : Bool) (a n : Int) (s : ByteArray) (r f l : Int) (w : World) (T : Tab w) (hz : 0 < w.heap.size) (hc : 1 ≤ c) (hs : Rd w B (oC k x a n s r f l)) (p : R3) (hp : F1 u k n = p) (h : p.e = 0) :
    Calls Tryd.prog 10 #[.string nm, .slice (some ⟨B, 0, none⟩) 1 c] w (Got w p) := by
  subst hp; exact cDo1Ok nm B c k x a n s r f l w (known_un u hm) hc hs _ h (fun W hB => cOne u nm k x a n s r f l W hm (Tab.below T hB hz) (size_pos hz hB))
theorem doUnNo (u : Un) (nm : ByteArray) (hm : nm.toList = u.name) (B c : Nat) (k : Int) (x : Bool) (a n : Int) (s : ByteArray) (r f l : Int) (w : World) (T : Tab w) (hz : 0 < w.heap.size) (hc : 1 ≤ c) (hs : Rd w B (oC k x a n s r f l)) (p : R3) (hp : F1 u k n = p) (h : p.e ≠ 0) :
    Calls Tryd.prog 10 #[.string nm, .slice (some ⟨B, 0, none⟩) 1 c] w (Fails w p.e) := by
  subst hp; exact cDo1No nm B c k x a n s r f l w (known_un u hm) hc hs _ h (fun W hB => cOne u nm k x a n s r f l W hm (Tab.below T hB hz) (size_pos hz hB))
theorem nm_add : (⟨#[97, 100, 100]⟩ : ByteArray).toList = Bi.add.name := by decide +kernel
theorem add_2_3 : F2 .add 1 2 1 3 = ⟨1, 5, 0⟩ := by simp [F2, isNumB, isIntB, fitB, sumsR, exF]
set_option maxHeartbeats 1600000 in
set_option maxRecDepth 100000 in
theorem cAnswers (w : World) : Calls Tryd.prog 8 #[] w fun e w' => e = .returned (.bool true) ∧ Below w.heap.size w w' := by
  have HB := Aside0.mk (Below.refl w.heap.size w)
  go_enter Tryd.func8, Tryd.ntmps8
  go_wp2_with (go_at_call 10; ((with_reducible refine (doBi .add _ nm_add _ _ 1 false 0 2 (⟨#[]⟩ : ByteArray) 0 0 0 1 false 0 3 (⟨#[]⟩ : ByteArray) 0 0 0 _ (by decide) (Rd.of (show Has _ _ (o2C 1 false 0 2 (⟨#[]⟩ : ByteArray) 0 0 0 1 false 0 3 (⟨#[]⟩ : ByteArray) 0 0 0) 38 from (by repeat (first | ((with_reducible refine Has.new _ _ _ ?_); (simp; done)) | (with_reducible first | apply Has.alloc | apply Has.drewN | apply Has.drew))))) ⟨1, 5, 0⟩ add_2_3 rfl).mono ?_); rintro e w1 ⟨g1, rfl, hg, hG, hb⟩; have nHB := Aside0.mk (below_step (w := w) (by repeat (first | (with_reducible first | exact HB.out | apply below_alloc | apply pw_below_drewN | apply below_drew1) | (with_reducible refine below_set ?_ ?_) | omega)) hb); clear hb; clear hg; clear HB; have HB := nHB; clear nHB; have HG := Aside0.mk hG; clear hG; obtain ⟨cHG0, cHG1, cHG2, cHG3, cHG4, cHG5, cHG6, cHG7, lHG⟩ := c8 HG.out; skip))
  go_ret
  exact ⟨rfl, HB.out⟩
end Go.Proofs.YtmbnlklinmmkdaaDoor.One
