import Derived.Test.YtmbnlklinmmkdaaDoorAAll
namespace Go.Proofs.YtmbnlklinmmkdaaDoor.One
open Go.RowKit Go.Proofs.YtmbnlklinmmkdaaDoorW.PrintWords Go.Proofs.YtmbnlklinmmkdaaDoorW.PrintLast Go.Proofs.YtmbnlklinmmkdaaDoorW.PrintMore
open Go.Shelf Go.Proofs.YtmbnlklinmmkdaaDoor.Sem Go.Proofs.YtmbnlklinmmkdaaDoor.Base Go.Proofs.YtmbnlklinmmkdaaDoor.Pure Go.Proofs.YtmbnlklinmmkdaaDoor.Leaf Go.Proofs.YtmbnlklinmmkdaaDoor.Turns Go.Proofs.YtmbnlklinmmkdaaDoor.MatA Go.Proofs.YtmbnlklinmmkdaaDoor.PArithDoes
set_option linter.unusedVariables false
theorem cAllT (B : Nat) (k : Int) (x : Bool) (a n : Int) (s : ByteArray) (r f l : Int) (j : Int) (y : Bool) (b m : Int) (t : ByteArray) (r2 f2 l2 : Int) (T : TypeId) (w : World) (hs : Has w B (o2C k x a n s r f l j y b m t r2 f2 l2) T) : Calls Tryd.prog 45 #[.slice (some ⟨B, 0, none⟩) 2 2, .func (.func 38) #[] #[]] w fun e w' => e = .returned (.bool (isTruB k n && isTruB j m)) ∧ Below w.heap.size w w' :=
  cAll 38 B k x a n s r f l j y b m t r2 f2 l2 T _ _ w (enters_of Tryd.func38 (by kernel_rfl) rfl) hs (fun W => cIsTruth k x a n s r f l W) (fun W => cIsTruth j y b m t r2 f2 l2 W)
theorem cAllI (B : Nat) (k : Int) (x : Bool) (a n : Int) (s : ByteArray) (r f l : Int) (j : Int) (y : Bool) (b m : Int) (t : ByteArray) (r2 f2 l2 : Int) (T : TypeId) (w : World) (hs : Has w B (o2C k x a n s r f l j y b m t r2 f2 l2) T) : Calls Tryd.prog 45 #[.slice (some ⟨B, 0, none⟩) 2 2, .func (.func 40) #[] #[]] w fun e w' => e = .returned (.bool (isIntB k n && isIntB j m)) ∧ Below w.heap.size w w' :=
  cAll 40 B k x a n s r f l j y b m t r2 f2 l2 T _ _ w (enters_of Tryd.func40 (by kernel_rfl) rfl) hs (fun W => cIsInt k x a n s r f l W) (fun W => cIsInt j y b m t r2 f2 l2 W)
theorem cAllN (B : Nat) (k : Int) (x : Bool) (a n : Int) (s : ByteArray) (r f l : Int) (j : Int) (y : Bool) (b m : Int) (t : ByteArray) (r2 f2 l2 : Int) (T : TypeId) (w : World) (hs : Has w B (o2C k x a n s r f l j y b m t r2 f2 l2) T) : Calls Tryd.prog 45 #[.slice (some ⟨B, 0, none⟩) 2 2, .func (.func 35) #[] #[]] w fun e w' => e = .returned (.bool (isNumB k n && isNumB j m)) ∧ Below w.heap.size w w' :=
  cAll 35 B k x a n s r f l j y b m t r2 f2 l2 T _ _ w (enters_of Tryd.func35 (by kernel_rfl) rfl) hs (fun W => cNumber k x a n s r f l W) (fun W => cNumber j y b m t r2 f2 l2 W)
end Go.Proofs.YtmbnlklinmmkdaaDoor.One
