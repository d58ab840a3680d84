import Derived.Test.YtmbnlklinmmkdaaDoorATwoA
import Derived.Test.YtmbnlklinmmkdaaDoorATwoB
import Derived.Test.YtmbnlklinmmkdaaDoorATwoC
namespace Go.Proofs.YtmbnlklinmmkdaaDoor.One
open Go.RowKit Go.Proofs.YtmbnlklinmmkdaaDoorW.PrintWords Go.Proofs.YtmbnlklinmmkdaaDoorW.PrintLast Go.Proofs.YtmbnlklinmmkdaaDoorW.PrintMore
open Go.Proofs.YtmbnlklinmmkdaaDoor.Sem Go.Proofs.YtmbnlklinmmkdaaDoor.Base Go.Proofs.YtmbnlklinmmkdaaDoor.Pure Go.Proofs.YtmbnlklinmmkdaaDoor.Leaf Go.Proofs.YtmbnlklinmmkdaaDoor.Turns Go.Proofs.YtmbnlklinmmkdaaDoor.MatA Go.Proofs.YtmbnlklinmmkdaaDoor.PArithDoes
set_option linter.unusedVariables false
theorem cTwo_and (nm : ByteArray) (k : Int) (x : Bool) (a n : Int) (s : ByteArray) (r f l : Int) (j : Int) (y : Bool) (b m : Int) (t : ByteArray) (r2 f2 l2 : Int) (w : World) (hm : nm.toList = Bi.and.name) : Calls Tryd.prog 17 #[.string nm, oV k x a n s r f l, oV j y b m t r2 f2 l2] w fun e w' => e = .returned (outV (F2 .and k n j m)) ∧ Below w.heap.size w w' := by
  show Calls _ _ _ _ fun e w' => e = .returned (outV (bitR .and k n j m)) ∧ _
  unfold bitR
  cases hT : (isTruB k n && isTruB j m)
  · cases hI : (isIntB k n && isIntB j m)
    · exact cTwoAN nm k x a n s r f l j y b m t r2 f2 l2 w (Or.inl (by rw [hm]; decide)) hT hI
    · exact cTwoAI nm k x a n s r f l j y b m t r2 f2 l2 w (Or.inl (by rw [hm]; decide)) _ (fun W => arith_bits.calls nm n m _ W (bits_eq .and (by simp) hm n m)) hT hI
  · exact cTwoAT nm k x a n s r f l j y b m t r2 f2 l2 w (Or.inl (by rw [hm]; decide)) _ (fun W => arith_bits.calls nm n m _ W (bits_eq .and (by simp) hm n m)) hT
theorem cTwo_or (nm : ByteArray) (k : Int) (x : Bool) (a n : Int) (s : ByteArray) (r f l : Int) (j : Int) (y : Bool) (b m : Int) (t : ByteArray) (r2 f2 l2 : Int) (w : World) (hm : nm.toList = Bi.or.name) : Calls Tryd.prog 17 #[.string nm, oV k x a n s r f l, oV j y b m t r2 f2 l2] w fun e w' => e = .returned (outV (F2 .or k n j m)) ∧ Below w.heap.size w w' := by
  show Calls _ _ _ _ fun e w' => e = .returned (outV (bitR .or k n j m)) ∧ _
  unfold bitR
  cases hT : (isTruB k n && isTruB j m)
  · cases hI : (isIntB k n && isIntB j m)
    · exact cTwoAN nm k x a n s r f l j y b m t r2 f2 l2 w (Or.inr (Or.inl ⟨(by rw [hm]; decide), (by rw [hm]; decide)⟩)) hT hI
    · exact cTwoAI nm k x a n s r f l j y b m t r2 f2 l2 w (Or.inr (Or.inl ⟨(by rw [hm]; decide), (by rw [hm]; decide)⟩)) _ (fun W => arith_bits.calls nm n m _ W (bits_eq .or (by simp) hm n m)) hT hI
  · exact cTwoAT nm k x a n s r f l j y b m t r2 f2 l2 w (Or.inr (Or.inl ⟨(by rw [hm]; decide), (by rw [hm]; decide)⟩)) _ (fun W => arith_bits.calls nm n m _ W (bits_eq .or (by simp) hm n m)) hT
theorem cTwo_xor (nm : ByteArray) (k : Int) (x : Bool) (a n : Int) (s : ByteArray) (r f l : Int) (j : Int) (y : Bool) (b m : Int) (t : ByteArray) (r2 f2 l2 : Int) (w : World) (hm : nm.toList = Bi.xor.name) : Calls Tryd.prog 17 #[.string nm, oV k x a n s r f l, oV j y b m t r2 f2 l2] w fun e w' => e = .returned (outV (F2 .xor k n j m)) ∧ Below w.heap.size w w' := by
  show Calls _ _ _ _ fun e w' => e = .returned (outV (bitR .xor k n j m)) ∧ _
  unfold bitR
  cases hT : (isTruB k n && isTruB j m)
  · cases hI : (isIntB k n && isIntB j m)
    · exact cTwoAN nm k x a n s r f l j y b m t r2 f2 l2 w (Or.inr (Or.inr ⟨(by rw [hm]; decide), (by rw [hm]; decide), (by rw [hm]; decide)⟩)) hT hI
    · exact cTwoAI nm k x a n s r f l j y b m t r2 f2 l2 w (Or.inr (Or.inr ⟨(by rw [hm]; decide), (by rw [hm]; decide), (by rw [hm]; decide)⟩)) _ (fun W => arith_bits.calls nm n m _ W (bits_eq .xor (by simp) hm n m)) hT hI
  · exact cTwoAT nm k x a n s r f l j y b m t r2 f2 l2 w (Or.inr (Or.inr ⟨(by rw [hm]; decide), (by rw [hm]; decide), (by rw [hm]; decide)⟩)) _ (fun W => arith_bits.calls nm n m _ W (bits_eq .xor (by simp) hm n m)) hT
theorem cTwo_idiv (nm : ByteArray) (k : Int) (x : Bool) (a n : Int) (s : ByteArray) (r f l : Int) (j : Int) (y : Bool) (b m : Int) (t : ByteArray) (r2 f2 l2 : Int) (w : World) (hm : nm.toList = Bi.idiv.name) : Calls Tryd.prog 17 #[.string nm, oV k x a n s r f l, oV j y b m t r2 f2 l2] w fun e w' => e = .returned (outV (F2 .idiv k n j m)) ∧ Below w.heap.size w w' := by
  show Calls _ _ _ _ fun e w' => e = .returned (outV (if (isIntB k n && isIntB j m) = true then quoR n m else bad 16)) ∧ _
  cases hI : (isIntB k n && isIntB j m)
  · exact cTwoBN nm k x a n s r f l j y b m t r2 f2 l2 w (Or.inl ⟨(by rw [hm]; decide), (by rw [hm]; decide), (by rw [hm]; decide), (by rw [hm]; decide)⟩) hI
  · exact cTwoBQ nm k x a n s r f l j y b m t r2 f2 l2 w (Or.inl ⟨(by rw [hm]; decide), (by rw [hm]; decide), (by rw [hm]; decide), (by rw [hm]; decide), (by rw [hm]; decide)⟩) _ hI (fun W => arith_quotient.calls nm n m _ _ _ _ _ _ _ _ _ W (idiv_eq hm n m (isIntB_true.1 (Bool.and_eq_true_iff.1 hI).1).2 (isIntB_true.1 (Bool.and_eq_true_iff.1 hI).2).2))
theorem cTwo_mod (nm : ByteArray) (k : Int) (x : Bool) (a n : Int) (s : ByteArray) (r f l : Int) (j : Int) (y : Bool) (b m : Int) (t : ByteArray) (r2 f2 l2 : Int) (w : World) (hm : nm.toList = Bi.mod.name) : Calls Tryd.prog 17 #[.string nm, oV k x a n s r f l, oV j y b m t r2 f2 l2] w fun e w' => e = .returned (outV (F2 .mod k n j m)) ∧ Below w.heap.size w w' := by
  show Calls _ _ _ _ fun e w' => e = .returned (outV (if (isIntB k n && isIntB j m) = true then modR n m else bad 16)) ∧ _
  cases hI : (isIntB k n && isIntB j m)
  · exact cTwoBN nm k x a n s r f l j y b m t r2 f2 l2 w (Or.inr (Or.inl ⟨(by rw [hm]; decide), (by rw [hm]; decide), (by rw [hm]; decide), (by rw [hm]; decide), (by rw [hm]; decide)⟩)) hI
  · exact cTwoBQ nm k x a n s r f l j y b m t r2 f2 l2 w (Or.inr ⟨(by rw [hm]; decide), (by rw [hm]; decide), (by rw [hm]; decide), (by rw [hm]; decide), (by rw [hm]; decide), (by rw [hm]; decide)⟩) _ hI (fun W => arith_quotient.calls nm n m _ _ _ _ _ _ _ _ _ W (mod_eq hm n m))
theorem cTwo_bitshift (nm : ByteArray) (k : Int) (x : Bool) (a n : Int) (s : ByteArray) (r f l : Int) (j : Int) (y : Bool) (b m : Int) (t : ByteArray) (r2 f2 l2 : Int) (w : World) (hm : nm.toList = Bi.bitshift.name) : Calls Tryd.prog 17 #[.string nm, oV k x a n s r f l, oV j y b m t r2 f2 l2] w fun e w' => e = .returned (outV (F2 .bitshift k n j m)) ∧ Below w.heap.size w w' := by
  show Calls _ _ _ _ fun e w' => e = .returned (outV (if (isIntB k n && isIntB j m) = true then ⟨1, shF n m, 0⟩ else bad 16)) ∧ _
  cases hI : (isIntB k n && isIntB j m)
  · exact cTwoBN nm k x a n s r f l j y b m t r2 f2 l2 w (Or.inr (Or.inr ⟨(by rw [hm]; decide), (by rw [hm]; decide), (by rw [hm]; decide), (by rw [hm]; decide), (by rw [hm]; decide), (by rw [hm]; decide)⟩)) hI
  · exact cTwoBS nm k x a n s r f l j y b m t r2 f2 l2 w ⟨(by rw [hm]; decide), (by rw [hm]; decide), (by rw [hm]; decide), (by rw [hm]; decide), (by rw [hm]; decide), (by rw [hm]; decide)⟩ _ hI (fun W => arith_shift.calls 1 n m _ W (shift_eq n m (isIntB_true.1 (Bool.and_eq_true_iff.1 hI).1).2 (isIntB_true.1 (Bool.and_eq_true_iff.1 hI).2).2))
theorem cTwo_gt (nm : ByteArray) (k : Int) (x : Bool) (a n : Int) (s : ByteArray) (r f l : Int) (j : Int) (y : Bool) (b m : Int) (t : ByteArray) (r2 f2 l2 : Int) (w : World) (hm : nm.toList = Bi.gt.name) : Calls Tryd.prog 17 #[.string nm, oV k x a n s r f l, oV j y b m t r2 f2 l2] w fun e w' => e = .returned (outV (F2 .gt k n j m)) ∧ Below w.heap.size w w' := by
  show Calls _ _ _ _ fun e w' => e = .returned (outV (if (isNumB k n && isNumB j m) = true then tv (ordB .gt (sc k n) (sc j m)) else bad 16)) ∧ _
  cases hN : (isNumB k n && isNumB j m)
  · exact cTwoCN nm k x a n s r f l j y b m t r2 f2 l2 w ⟨(by rw [hm]; decide), (by rw [hm]; decide), (by rw [hm]; decide), (by rw [hm]; decide), (by rw [hm]; decide), (by rw [hm]; decide)⟩ hN
  · exact cTwoCO nm k x a n s r f l j y b m t r2 f2 l2 w (Or.inl ⟨(by rw [hm]; decide), (by rw [hm]; decide), (by rw [hm]; decide), (by rw [hm]; decide), (by rw [hm]; decide), (by rw [hm]; decide), (by rw [hm]; decide)⟩) _ hN (fun W => arith_order.calls 1 nm k x a n s r f l j y b m t r2 f2 l2 _ W (order_eq .gt (by simp) hm (Bool.and_eq_true_iff.1 hN).1 (Bool.and_eq_true_iff.1 hN).2))
theorem cTwo_ge (nm : ByteArray) (k : Int) (x : Bool) (a n : Int) (s : ByteArray) (r f l : Int) (j : Int) (y : Bool) (b m : Int) (t : ByteArray) (r2 f2 l2 : Int) (w : World) (hm : nm.toList = Bi.ge.name) : Calls Tryd.prog 17 #[.string nm, oV k x a n s r f l, oV j y b m t r2 f2 l2] w fun e w' => e = .returned (outV (F2 .ge k n j m)) ∧ Below w.heap.size w w' := by
  show Calls _ _ _ _ fun e w' => e = .returned (outV (if (isNumB k n && isNumB j m) = true then tv (ordB .ge (sc k n) (sc j m)) else bad 16)) ∧ _
  cases hN : (isNumB k n && isNumB j m)
  · exact cTwoCN nm k x a n s r f l j y b m t r2 f2 l2 w ⟨(by rw [hm]; decide), (by rw [hm]; decide), (by rw [hm]; decide), (by rw [hm]; decide), (by rw [hm]; decide), (by rw [hm]; decide)⟩ hN
  · exact cTwoCO nm k x a n s r f l j y b m t r2 f2 l2 w (Or.inr (Or.inl ⟨(by rw [hm]; decide), (by rw [hm]; decide), (by rw [hm]; decide), (by rw [hm]; decide), (by rw [hm]; decide), (by rw [hm]; decide), (by rw [hm]; decide), (by rw [hm]; decide)⟩)) _ hN (fun W => arith_order.calls 1 nm k x a n s r f l j y b m t r2 f2 l2 _ W (order_eq .ge (by simp) hm (Bool.and_eq_true_iff.1 hN).1 (Bool.and_eq_true_iff.1 hN).2))
theorem cTwo_lt (nm : ByteArray) (k : Int) (x : Bool) (a n : Int) (s : ByteArray) (r f l : Int) (j : Int) (y : Bool) (b m : Int) (t : ByteArray) (r2 f2 l2 : Int) (w : World) (hm : nm.toList = Bi.lt.name) : Calls Tryd.prog 17 #[.string nm, oV k x a n s r f l, oV j y b m t r2 f2 l2] w fun e w' => e = .returned (outV (F2 .lt k n j m)) ∧ Below w.heap.size w w' := by
  show Calls _ _ _ _ fun e w' => e = .returned (outV (if (isNumB k n && isNumB j m) = true then tv (ordB .lt (sc k n) (sc j m)) else bad 16)) ∧ _
  cases hN : (isNumB k n && isNumB j m)
  · exact cTwoCN nm k x a n s r f l j y b m t r2 f2 l2 w ⟨(by rw [hm]; decide), (by rw [hm]; decide), (by rw [hm]; decide), (by rw [hm]; decide), (by rw [hm]; decide), (by rw [hm]; decide)⟩ hN
  · exact cTwoCO nm k x a n s r f l j y b m t r2 f2 l2 w (Or.inr (Or.inr (Or.inl ⟨(by rw [hm]; decide), (by rw [hm]; decide), (by rw [hm]; decide), (by rw [hm]; decide), (by rw [hm]; decide), (by rw [hm]; decide), (by rw [hm]; decide), (by rw [hm]; decide), (by rw [hm]; decide)⟩))) _ hN (fun W => arith_order.calls 1 nm k x a n s r f l j y b m t r2 f2 l2 _ W (order_eq .lt (by simp) hm (Bool.and_eq_true_iff.1 hN).1 (Bool.and_eq_true_iff.1 hN).2))
theorem cTwo_le (nm : ByteArray) (k : Int) (x : Bool) (a n : Int) (s : ByteArray) (r f l : Int) (j : Int) (y : Bool) (b m : Int) (t : ByteArray) (r2 f2 l2 : Int) (w : World) (hm : nm.toList = Bi.le.name) : Calls Tryd.prog 17 #[.string nm, oV k x a n s r f l, oV j y b m t r2 f2 l2] w fun e w' => e = .returned (outV (F2 .le k n j m)) ∧ Below w.heap.size w w' := by
  show Calls _ _ _ _ fun e w' => e = .returned (outV (if (isNumB k n && isNumB j m) = true then tv (ordB .le (sc k n) (sc j m)) else bad 16)) ∧ _
  cases hN : (isNumB k n && isNumB j m)
  · exact cTwoCN nm k x a n s r f l j y b m t r2 f2 l2 w ⟨(by rw [hm]; decide), (by rw [hm]; decide), (by rw [hm]; decide), (by rw [hm]; decide), (by rw [hm]; decide), (by rw [hm]; decide)⟩ hN
  · exact cTwoCO nm k x a n s r f l j y b m t r2 f2 l2 w (Or.inr (Or.inr (Or.inr ⟨(by rw [hm]; decide), (by rw [hm]; decide), (by rw [hm]; decide), (by rw [hm]; decide), (by rw [hm]; decide), (by rw [hm]; decide), (by rw [hm]; decide), (by rw [hm]; decide), (by rw [hm]; decide), (by rw [hm]; decide)⟩))) _ hN (fun W => arith_order.calls 1 nm k x a n s r f l j y b m t r2 f2 l2 _ W (order_eq .le (by simp) hm (Bool.and_eq_true_iff.1 hN).1 (Bool.and_eq_true_iff.1 hN).2))
theorem cTwo_add (nm : ByteArray) (k : Int) (x : Bool) (a n : Int) (s : ByteArray) (r f l : Int) (j : Int) (y : Bool) (b m : Int) (t : ByteArray) (r2 f2 l2 : Int) (w : World) (hm : nm.toList = Bi.add.name) : Calls Tryd.prog 17 #[.string nm, oV k x a n s r f l, oV j y b m t r2 f2 l2] w fun e w' => e = .returned (outV (F2 .add k n j m)) ∧ Below w.heap.size w w' := by
  show Calls _ _ _ _ fun e w' => e = .returned (outV (if (isNumB k n && isNumB j m) = true then sumsR .add k n j m else bad 16)) ∧ _
  cases hN : (isNumB k n && isNumB j m)
  · exact cTwoCN nm k x a n s r f l j y b m t r2 f2 l2 w ⟨(by rw [hm]; decide), (by rw [hm]; decide), (by rw [hm]; decide), (by rw [hm]; decide), (by rw [hm]; decide), (by rw [hm]; decide)⟩ hN
  · exact cTwoCS nm k x a n s r f l j y b m t r2 f2 l2 w ⟨(by rw [hm]; decide), (by rw [hm]; decide), (by rw [hm]; decide), (by rw [hm]; decide), (by rw [hm]; decide), (by rw [hm]; decide), (by rw [hm]; decide), (by rw [hm]; decide), (by rw [hm]; decide), (by rw [hm]; decide)⟩ _ hN (fun W => arith_sums.calls 5 nm k x a n s r f l j y b m t r2 f2 l2 _ _ _ _ _ _ _ _ _ W (sums_eq .add (by simp) hm))
theorem cTwo_sub (nm : ByteArray) (k : Int) (x : Bool) (a n : Int) (s : ByteArray) (r f l : Int) (j : Int) (y : Bool) (b m : Int) (t : ByteArray) (r2 f2 l2 : Int) (w : World) (hm : nm.toList = Bi.sub.name) : Calls Tryd.prog 17 #[.string nm, oV k x a n s r f l, oV j y b m t r2 f2 l2] w fun e w' => e = .returned (outV (F2 .sub k n j m)) ∧ Below w.heap.size w w' := by
  show Calls _ _ _ _ fun e w' => e = .returned (outV (if (isNumB k n && isNumB j m) = true then sumsR .sub k n j m else bad 16)) ∧ _
  cases hN : (isNumB k n && isNumB j m)
  · exact cTwoCN nm k x a n s r f l j y b m t r2 f2 l2 w ⟨(by rw [hm]; decide), (by rw [hm]; decide), (by rw [hm]; decide), (by rw [hm]; decide), (by rw [hm]; decide), (by rw [hm]; decide)⟩ hN
  · exact cTwoCS nm k x a n s r f l j y b m t r2 f2 l2 w ⟨(by rw [hm]; decide), (by rw [hm]; decide), (by rw [hm]; decide), (by rw [hm]; decide), (by rw [hm]; decide), (by rw [hm]; decide), (by rw [hm]; decide), (by rw [hm]; decide), (by rw [hm]; decide), (by rw [hm]; decide)⟩ _ hN (fun W => arith_sums.calls 5 nm k x a n s r f l j y b m t r2 f2 l2 _ _ _ _ _ _ _ _ _ W (sums_eq .sub (by simp) hm))
theorem cTwo_mul (nm : ByteArray) (k : Int) (x : Bool) (a n : Int) (s : ByteArray) (r f l : Int) (j : Int) (y : Bool) (b m : Int) (t : ByteArray) (r2 f2 l2 : Int) (w : World) (hm : nm.toList = Bi.mul.name) : Calls Tryd.prog 17 #[.string nm, oV k x a n s r f l, oV j y b m t r2 f2 l2] w fun e w' => e = .returned (outV (F2 .mul k n j m)) ∧ Below w.heap.size w w' := by
  show Calls _ _ _ _ fun e w' => e = .returned (outV (if (isNumB k n && isNumB j m) = true then sumsR .mul k n j m else bad 16)) ∧ _
  cases hN : (isNumB k n && isNumB j m)
  · exact cTwoCN nm k x a n s r f l j y b m t r2 f2 l2 w ⟨(by rw [hm]; decide), (by rw [hm]; decide), (by rw [hm]; decide), (by rw [hm]; decide), (by rw [hm]; decide), (by rw [hm]; decide)⟩ hN
  · exact cTwoCS nm k x a n s r f l j y b m t r2 f2 l2 w ⟨(by rw [hm]; decide), (by rw [hm]; decide), (by rw [hm]; decide), (by rw [hm]; decide), (by rw [hm]; decide), (by rw [hm]; decide), (by rw [hm]; decide), (by rw [hm]; decide), (by rw [hm]; decide), (by rw [hm]; decide)⟩ _ hN (fun W => arith_sums.calls 5 nm k x a n s r f l j y b m t r2 f2 l2 _ _ _ _ _ _ _ _ _ W (sums_eq .mul (by simp) hm))
theorem cTwo_div (nm : ByteArray) (k : Int) (x : Bool) (a n : Int) (s : ByteArray) (r f l : Int) (j : Int) (y : Bool) (b m : Int) (t : ByteArray) (r2 f2 l2 : Int) (w : World) (hm : nm.toList = Bi.div.name) : Calls Tryd.prog 17 #[.string nm, oV k x a n s r f l, oV j y b m t r2 f2 l2] w fun e w' => e = .returned (outV (F2 .div k n j m)) ∧ Below w.heap.size w w' := by
  show Calls _ _ _ _ fun e w' => e = .returned (outV (if (isNumB k n && isNumB j m) = true then realsR .div k n j m else bad 16)) ∧ _
  cases hN : (isNumB k n && isNumB j m)
  · exact cTwoCN nm k x a n s r f l j y b m t r2 f2 l2 w ⟨(by rw [hm]; decide), (by rw [hm]; decide), (by rw [hm]; decide), (by rw [hm]; decide), (by rw [hm]; decide), (by rw [hm]; decide)⟩ hN
  · exact cTwoCS nm k x a n s r f l j y b m t r2 f2 l2 w ⟨(by rw [hm]; decide), (by rw [hm]; decide), (by rw [hm]; decide), (by rw [hm]; decide), (by rw [hm]; decide), (by rw [hm]; decide), (by rw [hm]; decide), (by rw [hm]; decide), (by rw [hm]; decide), (by rw [hm]; decide)⟩ _ hN (fun W => arith_sums.calls 5 nm k x a n s r f l j y b m t r2 f2 l2 _ _ _ _ _ _ _ _ _ W (div_op hm))
theorem cTwo (o : Bi) (nm : ByteArray) (k : Int) (x : Bool) (a n : Int) (s : ByteArray) (r f l : Int) (j : Int) (y : Bool) (b m : Int) (t : ByteArray) (r2 f2 l2 : Int) (w : World) (hm : nm.toList = o.name) : Calls Tryd.prog 17 #[.string nm, oV k x a n s r f l, oV j y b m t r2 f2 l2] w fun e w' => e = .returned (outV (F2 o k n j m)) ∧ Below w.heap.size w w' := by
  cases o
  · exact cTwo_add nm k x a n s r f l j y b m t r2 f2 l2 w hm
  · exact cTwo_sub nm k x a n s r f l j y b m t r2 f2 l2 w hm
  · exact cTwo_mul nm k x a n s r f l j y b m t r2 f2 l2 w hm
  · exact cTwo_div nm k x a n s r f l j y b m t r2 f2 l2 w hm
  · exact cTwo_idiv nm k x a n s r f l j y b m t r2 f2 l2 w hm
  · exact cTwo_mod nm k x a n s r f l j y b m t r2 f2 l2 w hm
  · exact cTwo_and nm k x a n s r f l j y b m t r2 f2 l2 w hm
  · exact cTwo_or nm k x a n s r f l j y b m t r2 f2 l2 w hm
  · exact cTwo_xor nm k x a n s r f l j y b m t r2 f2 l2 w hm
  · exact cTwo_bitshift nm k x a n s r f l j y b m t r2 f2 l2 w hm
  · exact cTwo_gt nm k x a n s r f l j y b m t r2 f2 l2 w hm
  · exact cTwo_ge nm k x a n s r f l j y b m t r2 f2 l2 w hm
  · exact cTwo_lt nm k x a n s r f l j y b m t r2 f2 l2 w hm
  · exact cTwo_le nm k x a n s r f l j y b m t r2 f2 l2 w hm
end Go.Proofs.YtmbnlklinmmkdaaDoor.One
