import Derived.Test.YtmbnlklinmmkdaaDoorRAr2
import Derived.Test.YtmbnlklinmmkdaaDoorRAr2b
import Derived.Test.YtmbnlklinmmkdaaDoorRAr3add
import Derived.Test.YtmbnlklinmmkdaaDoorRAr3sub
import Derived.Test.YtmbnlklinmmkdaaDoorRAr3mul
import Derived.Test.YtmbnlklinmmkdaaDoorRAr3div
namespace Go.Proofs.YtmbnlklinmmkdaaDoor.One
open Go.RowKit Go.Proofs.YtmbnlklinmmkdaaDoorW.PrintWords Go.Proofs.YtmbnlklinmmkdaaDoorW.PrintLast Go.Proofs.YtmbnlklinmmkdaaDoorW.PrintMore
open Go.Proofs.YtmbnlklinmmkdaaDoor.Ref Go.Proofs.YtmbnlklinmmkdaaDoor.Bitw Go.Proofs.YtmbnlklinmmkdaaDoor.Sem Go.Proofs.YtmbnlklinmmkdaaDoor.Base Go.Proofs.YtmbnlklinmmkdaaDoor.Pure Go.Proofs.YtmbnlklinmmkdaaDoor.Leaf Go.Proofs.YtmbnlklinmmkdaaDoor.Turns Go.Proofs.YtmbnlklinmmkdaaDoor.MatA Go.Proofs.YtmbnlklinmmkdaaDoor.PArithDoes
set_option linter.unusedVariables false
theorem out_got {f : Nat} {args : Array Value} {w : World} {r : R3} (h0 : r.e = 0) (h : Calls Tryd.prog f args w (Out w r)) : Calls Tryd.prog f args w (GotV w r) := h.mono fun _ _ g => g.elim (fun h => h.2) (fun h => absurd h0 h.1)
theorem out_fail {f : Nat} {args : Array Value} {w : World} {r : R3} (h0 : r.e ≠ 0) (h : Calls Tryd.prog f args w (Out w r)) : Calls Tryd.prog f args w (Fails w r.e) := h.mono fun _ _ g => g.elim (fun h => absurd h.1 h0) (fun h => h.2)
theorem prod_bd {n m : Int} (h1 : -2147483648 ≤ n) (h2 : n ≤ 2147483647) (h3 : -2147483648 ≤ m) (h4 : m ≤ 2147483647) : -4611686018427387904 ≤ n * m ∧ n * m ≤ 4611686018427387904 := by
  have h : (n * m).natAbs ≤ 2147483648 * 2147483648 := by rw [Int.natAbs_mul]; exact Nat.mul_le_mul (by omega) (by omega)
  omega
theorem int_eq {k n : Int} (h : isNumB k n = true) : isIntB k n = (k == 1) := by unfold isIntB; rw [(isNumB_true.1 h).2, Bool.and_true]
theorem tru_int {k n : Int} (h : isTruB k n = true) : isIntB k n = false := by have := (isTruB_true.1 h).1; unfold isIntB; simp [this]
theorem int_tru {k n : Int} (h : isIntB k n = true) : isTruB k n = false := by have := (isIntB_true.1 h).1; unfold isTruB; simp [this]
theorem tv_bit (o : Bi) (ho : o = .and ∨ o = .or ∨ o = .xor) {n m : Int} (hn : n = 0 ∨ n = 1) (hm : m = 0 ∨ m = 1) : (⟨3, bitF o n m, 0⟩ : R3) = tv (lg o (n == 1) (m == 1)) := by
  have h : bitF o n m = (if lg o (n == 1) (m == 1) = true then (1 : Int) else 0) := by
    rcases ho with rfl | rfl | rfl <;> rcases hn with rfl | rfl <;> rcases hm with rfl | rfl <;> decide +kernel
  unfold tv; rw [h]
theorem ar1_not (nm : ByteArray) (B c : Nat) (k : Int) (x : Bool) (a n : Int) (s : ByteArray) (w : World) (hs : Rd w B (vC k x a n s)) (hm : nm.toList = Un.not.name) : Calls Tryd.prog 12 #[.string nm, .slice (some ⟨B, 0, none⟩) 1 c] w (Out w (F1 .not k n)) := by
  by_cases hT : isTruB k n = true
  · exact out_is (by show notR k n = tv (n == 0); unfold notR; rw [if_pos hT]) (out_ok rfl (ar1T nm B c k x a n s w hs (by rw [hm]; decide) hT))
  · by_cases hI : isIntB k n = true
    · have hb := fitB_true.1 (isIntB_true.1 hI).2
      exact out_is (by show notR k n = ⟨1, -1 - n, 0⟩; unfold notR; rw [if_neg hT, if_pos hI]) (out_ok rfl (ar1I nm B c k x a n s w hs (by rw [hm]; decide) (Bool.eq_false_iff.mpr hT) hI hb.1 hb.2))
    · exact out_is (by show notR k n = bad 16; unfold notR; rw [if_neg hT, if_neg hI]) (out_no (by decide) (ar1B nm B c k x a n s w hs (by rw [hm]; decide) (Bool.eq_false_iff.mpr hT) (Bool.eq_false_iff.mpr hI)))
theorem ar1_num (u : Un) (nm : ByteArray) (B c : Nat) (k : Int) (x : Bool) (a n : Int) (s : ByteArray) (w : World) (hs : Rd w B (vC k x a n s)) (hn : (nm.toList == [110, 111, 116]) = false) (hF : F1 u k n = if isNumB k n = true then N1 u k n else bad 16) (hU : isNumB k n = true → ∀ W, Calls Tryd.prog 23 #[.string nm, vV k x a n s] W (Out W (N1 u k n))) : Calls Tryd.prog 12 #[.string nm, .slice (some ⟨B, 0, none⟩) 1 c] w (Out w (F1 u k n)) := by
  by_cases hN : isNumB k n = true
  · refine out_is (hF.trans (if_pos hN)) ?_
    by_cases he : (N1 u k n).e = 0
    · exact out_ok he (ar1UOk nm B c k x a n s w hs hn hN _ (fun W => out_got he (hU hN W)))
    · exact out_no he (ar1UNo nm B c k x a n s w hs hn hN _ (fun W => out_fail he (hU hN W)))
  · exact out_is (hF.trans (if_neg hN)) (out_no (by decide) (ar1N nm B c k x a n s w hs hn (Bool.eq_false_iff.mpr hN)))
theorem ar1 (u : Un) (nm : ByteArray) (B c : Nat) (k : Int) (x : Bool) (a n : Int) (s : ByteArray) (w : World) (hs : Rd w B (vC k x a n s)) (hm : nm.toList = u.name) : Calls Tryd.prog 12 #[.string nm, .slice (some ⟨B, 0, none⟩) 1 c] w (Out w (F1 u k n)) := by
  cases u with
  | not => exact ar1_not nm B c k x a n s w hs hm
  | neg => exact ar1_num .neg nm B c k x a n s w hs (by rw [hm]; decide) rfl (fun hN W => rUn_neg nm k x a n s W hm hN)
  | abs => exact ar1_num .abs nm B c k x a n s w hs (by rw [hm]; decide) rfl (fun hN W => rUn_abs nm k x a n s W hm hN)
  | ceiling => exact ar1_num .ceiling nm B c k x a n s w hs (by rw [hm]; decide) rfl (fun hN W => rUn_ceiling nm k x a n s W hm hN)
  | floor => exact ar1_num .floor nm B c k x a n s w hs (by rw [hm]; decide) rfl (fun hN W => rUn_floor nm k x a n s W hm hN)
  | round => exact ar1_num .round nm B c k x a n s w hs (by rw [hm]; decide) rfl (fun hN W => rUn_round nm k x a n s W hm hN)
  | truncate => exact ar1_num .truncate nm B c k x a n s w hs (by rw [hm]; decide) rfl (fun hN W => rUn_truncate nm k x a n s W hm hN)
  | sqrt => exact ar1_num .sqrt nm B c k x a n s w hs (by rw [hm]; decide) rfl (fun hN W => rUn_sqrt nm k x a n s W hm hN)
  | sin => exact ar1_num .sin nm B c k x a n s w hs (by rw [hm]; decide) rfl (fun hN W => rUn_sin nm k x a n s W hm hN)
  | cos => exact ar1_num .cos nm B c k x a n s w hs (by rw [hm]; decide) rfl (fun hN W => rUn_cos nm k x a n s W hm hN)
theorem ar2_and (nm : ByteArray) (B c : Nat) (k : Int) (x : Bool) (a n : Int) (s : ByteArray) (j : Int) (y : Bool) (b m : Int) (t : ByteArray) (w : World) (hs : Rd w B (v2C k x a n s j y b m t)) (hm : nm.toList = Bi.and.name) : Calls Tryd.prog 12 #[.string nm, .slice (some ⟨B, 0, none⟩) 2 c] w (Out w (F2 .and k n j m)) := by
  by_cases hT : (isTruB k n && isTruB j m) = true
  · have hc := Bool.and_eq_true_iff.1 hT
    exact out_is (by show bitR .and k n j m = tv (lg .and (n == 1) (m == 1)); unfold bitR; rw [if_pos hT, tv_bit .and (Or.inl rfl) (isTruB_true.1 hc.1).2 (isTruB_true.1 hc.2).2]) (out_ok rfl (ar2T nm B c k x a n s j y b m t w hs (by rw [hm]; decide) ⟨hc.1, hc.2⟩ _ (fun W => mezzotintref05_logic.calls nm _ _ _ W (logic_eq .and (Or.inl rfl) hm _ _))))
  · by_cases hI : (isIntB k n && isIntB j m) = true
    · have hc := Bool.and_eq_true_iff.1 hI
      exact out_is (by show bitR .and k n j m = ⟨1, bitF .and n m, 0⟩; unfold bitR; rw [if_neg hT, if_pos hI]) (out_ok rfl (ar2I nm B c k x a n s j y b m t w hs (by rw [hm]; decide) ⟨int_tru hc.1, hc.1, hc.2⟩ _ (fun W => mezzotintref05_bitwise.calls 40 nm _ _ _ W (bitwise_eq .and (Or.inl rfl) hm (isIntB_true.1 hc.1).2 (isIntB_true.1 hc.2).2))))
    · refine out_is (by show bitR .and k n j m = bad 16; unfold bitR; rw [if_neg hT, if_neg hI]) (out_no (by decide) (ar2B nm B c k x a n s j y b m t w hs (by rw [hm]; decide) ?_))
      have ex : isTruB k n = true → isIntB k n = false := tru_int
      cases h1 : isTruB k n <;> cases h2 : isTruB j m <;> cases h3 : isIntB k n <;> cases h4 : isIntB j m <;> simp_all
theorem ar2_or (nm : ByteArray) (B c : Nat) (k : Int) (x : Bool) (a n : Int) (s : ByteArray) (j : Int) (y : Bool) (b m : Int) (t : ByteArray) (w : World) (hs : Rd w B (v2C k x a n s j y b m t)) (hm : nm.toList = Bi.or.name) : Calls Tryd.prog 12 #[.string nm, .slice (some ⟨B, 0, none⟩) 2 c] w (Out w (F2 .or k n j m)) := by
  by_cases hT : (isTruB k n && isTruB j m) = true
  · have hc := Bool.and_eq_true_iff.1 hT
    exact out_is (by show bitR .or k n j m = tv (lg .or (n == 1) (m == 1)); unfold bitR; rw [if_pos hT, tv_bit .or (Or.inr (Or.inl rfl)) (isTruB_true.1 hc.1).2 (isTruB_true.1 hc.2).2]) (out_ok rfl (ar2T nm B c k x a n s j y b m t w hs (by rw [hm]; decide) ⟨hc.1, hc.2⟩ _ (fun W => mezzotintref05_logic.calls nm _ _ _ W (logic_eq .or (Or.inr (Or.inl rfl)) hm _ _))))
  · by_cases hI : (isIntB k n && isIntB j m) = true
    · have hc := Bool.and_eq_true_iff.1 hI
      exact out_is (by show bitR .or k n j m = ⟨1, bitF .or n m, 0⟩; unfold bitR; rw [if_neg hT, if_pos hI]) (out_ok rfl (ar2I nm B c k x a n s j y b m t w hs (by rw [hm]; decide) ⟨int_tru hc.1, hc.1, hc.2⟩ _ (fun W => mezzotintref05_bitwise.calls 40 nm _ _ _ W (bitwise_eq .or (Or.inr (Or.inl rfl)) hm (isIntB_true.1 hc.1).2 (isIntB_true.1 hc.2).2))))
    · refine out_is (by show bitR .or k n j m = bad 16; unfold bitR; rw [if_neg hT, if_neg hI]) (out_no (by decide) (ar2B nm B c k x a n s j y b m t w hs (by rw [hm]; decide) ?_))
      have ex : isTruB k n = true → isIntB k n = false := tru_int
      cases h1 : isTruB k n <;> cases h2 : isTruB j m <;> cases h3 : isIntB k n <;> cases h4 : isIntB j m <;> simp_all
theorem ar2_xor (nm : ByteArray) (B c : Nat) (k : Int) (x : Bool) (a n : Int) (s : ByteArray) (j : Int) (y : Bool) (b m : Int) (t : ByteArray) (w : World) (hs : Rd w B (v2C k x a n s j y b m t)) (hm : nm.toList = Bi.xor.name) : Calls Tryd.prog 12 #[.string nm, .slice (some ⟨B, 0, none⟩) 2 c] w (Out w (F2 .xor k n j m)) := by
  by_cases hT : (isTruB k n && isTruB j m) = true
  · have hc := Bool.and_eq_true_iff.1 hT
    exact out_is (by show bitR .xor k n j m = tv (lg .xor (n == 1) (m == 1)); unfold bitR; rw [if_pos hT, tv_bit .xor (Or.inr (Or.inr rfl)) (isTruB_true.1 hc.1).2 (isTruB_true.1 hc.2).2]) (out_ok rfl (ar2T nm B c k x a n s j y b m t w hs (by rw [hm]; decide) ⟨hc.1, hc.2⟩ _ (fun W => mezzotintref05_logic.calls nm _ _ _ W (logic_eq .xor (Or.inr (Or.inr rfl)) hm _ _))))
  · by_cases hI : (isIntB k n && isIntB j m) = true
    · have hc := Bool.and_eq_true_iff.1 hI
      exact out_is (by show bitR .xor k n j m = ⟨1, bitF .xor n m, 0⟩; unfold bitR; rw [if_neg hT, if_pos hI]) (out_ok rfl (ar2I nm B c k x a n s j y b m t w hs (by rw [hm]; decide) ⟨int_tru hc.1, hc.1, hc.2⟩ _ (fun W => mezzotintref05_bitwise.calls 40 nm _ _ _ W (bitwise_eq .xor (Or.inr (Or.inr rfl)) hm (isIntB_true.1 hc.1).2 (isIntB_true.1 hc.2).2))))
    · refine out_is (by show bitR .xor k n j m = bad 16; unfold bitR; rw [if_neg hT, if_neg hI]) (out_no (by decide) (ar2B nm B c k x a n s j y b m t w hs (by rw [hm]; decide) ?_))
      have ex : isTruB k n = true → isIntB k n = false := tru_int
      cases h1 : isTruB k n <;> cases h2 : isTruB j m <;> cases h3 : isIntB k n <;> cases h4 : isIntB j m <;> simp_all
theorem ar2_idiv (nm : ByteArray) (B c : Nat) (k : Int) (x : Bool) (a n : Int) (s : ByteArray) (j : Int) (y : Bool) (b m : Int) (t : ByteArray) (w : World) (hs : Rd w B (v2C k x a n s j y b m t)) (hm : nm.toList = Bi.idiv.name) : Calls Tryd.prog 12 #[.string nm, .slice (some ⟨B, 0, none⟩) 2 c] w (Out w (F2 .idiv k n j m)) := by
  by_cases hI : (isIntB k n && isIntB j m) = true
  · have hc := Bool.and_eq_true_iff.1 hI
    have hf := And.intro (isIntB_true.1 hc.1).2 (isIntB_true.1 hc.2).2
    have e : F2 .idiv k n j m = quoR n m := by show (if (isIntB k n && isIntB j m) = true then _ else _) = _; rw [if_pos hI]
    by_cases hz : m = 0
    · exact out_is (e.trans (by unfold quoR; rw [if_pos hz])) (out_no (show (bad 18).e ≠ 0 by decide) (ar2INo nm B c k x a n s j y b m t w hs (by rw [hm]; decide) ⟨hc.1, hc.2⟩ (bad 18) (fun W => rZero nm n m W (by rw [hm]; decide) hf.1 hf.2 hz)))
    · by_cases hr : fitB (n.tdiv m) = true
      · exact out_is (e.trans (by unfold quoR; rw [if_neg hz, if_pos hr])) (out_ok rfl (ar2IOk nm B c k x a n s j y b m t w hs (by rw [hm]; decide) ⟨hc.1, hc.2⟩ ⟨1, n.tdiv m, 0⟩ (fun W => rDivOk nm n m W (by rw [hm]; decide) (by rw [hm]; decide) hf.1 hf.2 hz hr)))
      · exact out_is (e.trans (by unfold quoR; rw [if_neg hz, if_neg hr])) (out_no (show (bad 18).e ≠ 0 by decide) (ar2INo nm B c k x a n s j y b m t w hs (by rw [hm]; decide) ⟨hc.1, hc.2⟩ (bad 18) (fun W => rDivNo nm n m W (by rw [hm]; decide) (by rw [hm]; decide) hf.1 hf.2 hz (Bool.eq_false_iff.mpr hr))))
  · refine out_is (show F2 .idiv k n j m = bad 16 by show (if (isIntB k n && isIntB j m) = true then _ else _) = _; rw [if_neg hI]) (out_no (by decide) (ar2IB nm B c k x a n s j y b m t w hs (by rw [hm]; decide) ?_))
    cases h1 : isIntB k n <;> cases h2 : isIntB j m <;> simp_all
theorem ar2_mod (nm : ByteArray) (B c : Nat) (k : Int) (x : Bool) (a n : Int) (s : ByteArray) (j : Int) (y : Bool) (b m : Int) (t : ByteArray) (w : World) (hs : Rd w B (v2C k x a n s j y b m t)) (hm : nm.toList = Bi.mod.name) : Calls Tryd.prog 12 #[.string nm, .slice (some ⟨B, 0, none⟩) 2 c] w (Out w (F2 .mod k n j m)) := by
  by_cases hI : (isIntB k n && isIntB j m) = true
  · have hc := Bool.and_eq_true_iff.1 hI
    have hf := And.intro (isIntB_true.1 hc.1).2 (isIntB_true.1 hc.2).2
    have e : F2 .mod k n j m = modR n m := by show (if (isIntB k n && isIntB j m) = true then _ else _) = _; rw [if_pos hI]
    by_cases hz : m = 0
    · exact out_is (e.trans (by unfold modR; rw [if_pos hz])) (out_no (show (bad 18).e ≠ 0 by decide) (ar2INo nm B c k x a n s j y b m t w hs (by rw [hm]; decide) ⟨hc.1, hc.2⟩ (bad 18) (fun W => rZero nm n m W (by rw [hm]; decide) hf.1 hf.2 hz)))
    · exact out_is (e.trans (by unfold modR; rw [if_neg hz])) (out_ok rfl (ar2IOk nm B c k x a n s j y b m t w hs (by rw [hm]; decide) ⟨hc.1, hc.2⟩ ⟨1, n.tmod m, 0⟩ (fun W => rMod nm n m W (by rw [hm]; decide) (by rw [hm]; decide) hf.1 hf.2 hz)))
  · refine out_is (show F2 .mod k n j m = bad 16 by show (if (isIntB k n && isIntB j m) = true then _ else _) = _; rw [if_neg hI]) (out_no (by decide) (ar2IB nm B c k x a n s j y b m t w hs (by rw [hm]; decide) ?_))
    cases h1 : isIntB k n <;> cases h2 : isIntB j m <;> simp_all
theorem ar2_bitshift (nm : ByteArray) (B c : Nat) (k : Int) (x : Bool) (a n : Int) (s : ByteArray) (j : Int) (y : Bool) (b m : Int) (t : ByteArray) (w : World) (hs : Rd w B (v2C k x a n s j y b m t)) (hm : nm.toList = Bi.bitshift.name) : Calls Tryd.prog 12 #[.string nm, .slice (some ⟨B, 0, none⟩) 2 c] w (Out w (F2 .bitshift k n j m)) := by
  by_cases hI : (isIntB k n && isIntB j m) = true
  · have hc := Bool.and_eq_true_iff.1 hI
    have hf := And.intro (isIntB_true.1 hc.1).2 (isIntB_true.1 hc.2).2
    have e : F2 .bitshift k n j m = ⟨1, shF n m, 0⟩ := by show (if (isIntB k n && isIntB j m) = true then _ else _) = _; rw [if_pos hI]
    refine out_is e (out_ok rfl (ar2IOk nm B c k x a n s j y b m t w hs (by rw [hm]; decide) ⟨hc.1, hc.2⟩ ⟨1, shF n m, 0⟩ (fun W => ?_)))
    by_cases hf0 : m > 31 ∨ m < -31
    · exact rShiftFar nm n m W (by rw [hm]; decide) hf.1 hf.2 hf0
    · by_cases h0 : 0 ≤ m
      · exact rShiftL nm n m W (by rw [hm]; decide) hf.1 hf.2 h0 (by omega)
      · exact rShiftR nm n m W (by rw [hm]; decide) hf.1 hf.2 (by omega) (by omega)
  · refine out_is (show F2 .bitshift k n j m = bad 16 by show (if (isIntB k n && isIntB j m) = true then _ else _) = _; rw [if_neg hI]) (out_no (by decide) (ar2IB nm B c k x a n s j y b m t w hs (by rw [hm]; decide) ?_))
    cases h1 : isIntB k n <;> cases h2 : isIntB j m <;> simp_all
theorem ar2_gt (nm : ByteArray) (B c : Nat) (k : Int) (x : Bool) (a n : Int) (s : ByteArray) (j : Int) (y : Bool) (b m : Int) (t : ByteArray) (w : World) (hs : Rd w B (v2C k x a n s j y b m t)) (hm : nm.toList = Bi.gt.name) : Calls Tryd.prog 12 #[.string nm, .slice (some ⟨B, 0, none⟩) 2 c] w (Out w (F2 .gt k n j m)) := by
  by_cases hN : (isNumB k n && isNumB j m) = true
  · have hc := Bool.and_eq_true_iff.1 hN
    exact out_is (show F2 .gt k n j m = tv (decide (sc k n > sc j m)) by show (if (isNumB k n && isNumB j m) = true then _ else _) = _; rw [if_pos hN]; rfl) (out_ok rfl (ar2gt nm B c k x a n s j y b m t w hs (by rw [hm]; decide) ⟨hc.1, hc.2⟩))
  · refine out_is (show F2 .gt k n j m = bad 16 by show (if (isNumB k n && isNumB j m) = true then _ else _) = _; rw [if_neg hN]) (out_no (by decide) (ar2NB nm B c k x a n s j y b m t w hs (by rw [hm]; decide) ?_))
    cases h1 : isNumB k n <;> cases h2 : isNumB j m <;> simp_all
theorem ar2_ge (nm : ByteArray) (B c : Nat) (k : Int) (x : Bool) (a n : Int) (s : ByteArray) (j : Int) (y : Bool) (b m : Int) (t : ByteArray) (w : World) (hs : Rd w B (v2C k x a n s j y b m t)) (hm : nm.toList = Bi.ge.name) : Calls Tryd.prog 12 #[.string nm, .slice (some ⟨B, 0, none⟩) 2 c] w (Out w (F2 .ge k n j m)) := by
  by_cases hN : (isNumB k n && isNumB j m) = true
  · have hc := Bool.and_eq_true_iff.1 hN
    exact out_is (show F2 .ge k n j m = tv (decide (sc k n ≥ sc j m)) by show (if (isNumB k n && isNumB j m) = true then _ else _) = _; rw [if_pos hN]; rfl) (out_ok rfl (ar2ge nm B c k x a n s j y b m t w hs (by rw [hm]; decide) ⟨hc.1, hc.2⟩))
  · refine out_is (show F2 .ge k n j m = bad 16 by show (if (isNumB k n && isNumB j m) = true then _ else _) = _; rw [if_neg hN]) (out_no (by decide) (ar2NB nm B c k x a n s j y b m t w hs (by rw [hm]; decide) ?_))
    cases h1 : isNumB k n <;> cases h2 : isNumB j m <;> simp_all
theorem ar2_lt (nm : ByteArray) (B c : Nat) (k : Int) (x : Bool) (a n : Int) (s : ByteArray) (j : Int) (y : Bool) (b m : Int) (t : ByteArray) (w : World) (hs : Rd w B (v2C k x a n s j y b m t)) (hm : nm.toList = Bi.lt.name) : Calls Tryd.prog 12 #[.string nm, .slice (some ⟨B, 0, none⟩) 2 c] w (Out w (F2 .lt k n j m)) := by
  by_cases hN : (isNumB k n && isNumB j m) = true
  · have hc := Bool.and_eq_true_iff.1 hN
    exact out_is (show F2 .lt k n j m = tv (decide (sc k n < sc j m)) by show (if (isNumB k n && isNumB j m) = true then _ else _) = _; rw [if_pos hN]; rfl) (out_ok rfl (ar2lt nm B c k x a n s j y b m t w hs (by rw [hm]; decide) ⟨hc.1, hc.2⟩))
  · refine out_is (show F2 .lt k n j m = bad 16 by show (if (isNumB k n && isNumB j m) = true then _ else _) = _; rw [if_neg hN]) (out_no (by decide) (ar2NB nm B c k x a n s j y b m t w hs (by rw [hm]; decide) ?_))
    cases h1 : isNumB k n <;> cases h2 : isNumB j m <;> simp_all
theorem ar2_le (nm : ByteArray) (B c : Nat) (k : Int) (x : Bool) (a n : Int) (s : ByteArray) (j : Int) (y : Bool) (b m : Int) (t : ByteArray) (w : World) (hs : Rd w B (v2C k x a n s j y b m t)) (hm : nm.toList = Bi.le.name) : Calls Tryd.prog 12 #[.string nm, .slice (some ⟨B, 0, none⟩) 2 c] w (Out w (F2 .le k n j m)) := by
  by_cases hN : (isNumB k n && isNumB j m) = true
  · have hc := Bool.and_eq_true_iff.1 hN
    exact out_is (show F2 .le k n j m = tv (decide (sc k n ≤ sc j m)) by show (if (isNumB k n && isNumB j m) = true then _ else _) = _; rw [if_pos hN]; rfl) (out_ok rfl (ar2le nm B c k x a n s j y b m t w hs (by rw [hm]; decide) ⟨hc.1, hc.2⟩))
  · refine out_is (show F2 .le k n j m = bad 16 by show (if (isNumB k n && isNumB j m) = true then _ else _) = _; rw [if_neg hN]) (out_no (by decide) (ar2NB nm B c k x a n s j y b m t w hs (by rw [hm]; decide) ?_))
    cases h1 : isNumB k n <;> cases h2 : isNumB j m <;> simp_all
theorem ar2_add (nm : ByteArray) (B c : Nat) (k : Int) (x : Bool) (a n : Int) (s : ByteArray) (j : Int) (y : Bool) (b m : Int) (t : ByteArray) (w : World) (hs : Rd w B (v2C k x a n s j y b m t)) (hm : nm.toList = Bi.add.name) : Calls Tryd.prog 12 #[.string nm, .slice (some ⟨B, 0, none⟩) 2 c] w (Out w (F2 .add k n j m)) := by
  by_cases hN : (isNumB k n && isNumB j m) = true
  · have hc := Bool.and_eq_true_iff.1 hN
    obtain ⟨h1, h2⟩ := fitB_true.1 (isNumB_true.1 hc.1).2
    obtain ⟨h3, h4⟩ := fitB_true.1 (isNumB_true.1 hc.2).2
    obtain ⟨h5, h6⟩ := prod_bd h1 h2 h3 h4
    have hN1 := hc.1
    have hN2 := hc.2
    by_cases hx : (isIntB k n && isIntB j m && fitB (n + m)) = true
    · have hy := Bool.and_eq_true_iff.1 hx
      have hz := Bool.and_eq_true_iff.1 hy.1
      exact out_is (show F2 .add k n j m = ⟨1, n + m, 0⟩ by show (if (isNumB k n && isNumB j m) = true then (if (isIntB k n && isIntB j m && fitB (n + m)) = true then _ else _) else _) = _; rw [if_pos hN, if_pos hx]; rfl) (out_ok rfl (ar2x_add nm B c k x a n s j y b m t w hs (by rw [hm]; decide) ⟨hN1, hN2, (int_eq hN1) ▸ hz.1, (int_eq hN2) ▸ hz.2⟩ h1 h2 h3 h4 h5 h6 hy.2))
    · have e : F2 .add k n j m = bindR (asR k n) fun p => bindR (asR j m) fun q => gv (addR p q) := by
        show (if (isNumB k n && isNumB j m) = true then (if (isIntB k n && isIntB j m && fitB (n + m)) = true then _ else _) else _) = _
        rw [if_pos hN, if_neg hx]; rfl
      rw [int_eq hN1, int_eq hN2] at hx
      have hk : (isNumB k n = true ∧ isNumB j m = true ∧ (k == 1) = false) ∨ (isNumB k n = true ∧ isNumB j m = true ∧ (k == 1) = true ∧ (j == 1) = false) ∨ (isNumB k n = true ∧ isNumB j m = true ∧ (k == 1) = true ∧ (j == 1) = true ∧ fitB (n + m) = false) := by
        cases h1 : (k == 1) <;> cases h2 : (j == 1) <;> cases h3 : fitB (n + m) <;> simp [h1, h2, h3, hN1, hN2] at hx ⊢
      by_cases hp : (asR k n).2 = 0
      · by_cases hq : (asR j m).2 = 0
        · by_cases hr : (addR (asR k n).1 (asR j m).1).2 = 0
          · exact out_is (e.trans ((bind_ok hp).trans ((bind_ok hq).trans (gv_ok hr)))) (out_ok rfl (ar2rOk_add nm B c k x a n s j y b m t w hs (by rw [hm]; decide) hk h1 h2 h3 h4 h5 h6 _ rfl hp _ rfl hq _ rfl hr))
          · exact out_is (e.trans ((bind_ok hp).trans ((bind_ok hq).trans (gv_no hr)))) (out_no hr (ar2rNo_add nm B c k x a n s j y b m t w hs (by rw [hm]; decide) hk h1 h2 h3 h4 h5 h6 _ rfl hp _ rfl hq _ rfl hr))
        · exact out_is (e.trans ((bind_ok hp).trans (bind_no hq))) (out_no hq (ar2q_add nm B c k x a n s j y b m t w hs (by rw [hm]; decide) hk h1 h2 h3 h4 h5 h6 _ rfl hp _ rfl hq))
      · exact out_is (e.trans (bind_no hp)) (out_no hp (ar2p_add nm B c k x a n s j y b m t w hs (by rw [hm]; decide) hk h1 h2 h3 h4 h5 h6 _ rfl hp))
  · refine out_is (show F2 .add k n j m = bad 16 by show (if (isNumB k n && isNumB j m) = true then _ else _) = _; rw [if_neg hN]) (out_no (by decide) (ar2NB nm B c k x a n s j y b m t w hs (by rw [hm]; decide) ?_))
    cases h1 : isNumB k n <;> cases h2 : isNumB j m <;> simp_all
theorem ar2_sub (nm : ByteArray) (B c : Nat) (k : Int) (x : Bool) (a n : Int) (s : ByteArray) (j : Int) (y : Bool) (b m : Int) (t : ByteArray) (w : World) (hs : Rd w B (v2C k x a n s j y b m t)) (hm : nm.toList = Bi.sub.name) : Calls Tryd.prog 12 #[.string nm, .slice (some ⟨B, 0, none⟩) 2 c] w (Out w (F2 .sub k n j m)) := by
  by_cases hN : (isNumB k n && isNumB j m) = true
  · have hc := Bool.and_eq_true_iff.1 hN
    obtain ⟨h1, h2⟩ := fitB_true.1 (isNumB_true.1 hc.1).2
    obtain ⟨h3, h4⟩ := fitB_true.1 (isNumB_true.1 hc.2).2
    obtain ⟨h5, h6⟩ := prod_bd h1 h2 h3 h4
    have hN1 := hc.1
    have hN2 := hc.2
    by_cases hx : (isIntB k n && isIntB j m && fitB (n - m)) = true
    · have hy := Bool.and_eq_true_iff.1 hx
      have hz := Bool.and_eq_true_iff.1 hy.1
      exact out_is (show F2 .sub k n j m = ⟨1, n - m, 0⟩ by show (if (isNumB k n && isNumB j m) = true then (if (isIntB k n && isIntB j m && fitB (n - m)) = true then _ else _) else _) = _; rw [if_pos hN, if_pos hx]; rfl) (out_ok rfl (ar2x_sub nm B c k x a n s j y b m t w hs (by rw [hm]; decide) ⟨hN1, hN2, (int_eq hN1) ▸ hz.1, (int_eq hN2) ▸ hz.2⟩ h1 h2 h3 h4 h5 h6 hy.2))
    · have e : F2 .sub k n j m = bindR (asR k n) fun p => bindR (asR j m) fun q => gv (subR p q) := by
        show (if (isNumB k n && isNumB j m) = true then (if (isIntB k n && isIntB j m && fitB (n - m)) = true then _ else _) else _) = _
        rw [if_pos hN, if_neg hx]; rfl
      rw [int_eq hN1, int_eq hN2] at hx
      have hk : (isNumB k n = true ∧ isNumB j m = true ∧ (k == 1) = false) ∨ (isNumB k n = true ∧ isNumB j m = true ∧ (k == 1) = true ∧ (j == 1) = false) ∨ (isNumB k n = true ∧ isNumB j m = true ∧ (k == 1) = true ∧ (j == 1) = true ∧ fitB (n - m) = false) := by
        cases h1 : (k == 1) <;> cases h2 : (j == 1) <;> cases h3 : fitB (n - m) <;> simp [h1, h2, h3, hN1, hN2] at hx ⊢
      by_cases hp : (asR k n).2 = 0
      · by_cases hq : (asR j m).2 = 0
        · by_cases hr : (subR (asR k n).1 (asR j m).1).2 = 0
          · exact out_is (e.trans ((bind_ok hp).trans ((bind_ok hq).trans (gv_ok hr)))) (out_ok rfl (ar2rOk_sub nm B c k x a n s j y b m t w hs (by rw [hm]; decide) hk h1 h2 h3 h4 h5 h6 _ rfl hp _ rfl hq _ rfl hr))
          · exact out_is (e.trans ((bind_ok hp).trans ((bind_ok hq).trans (gv_no hr)))) (out_no hr (ar2rNo_sub nm B c k x a n s j y b m t w hs (by rw [hm]; decide) hk h1 h2 h3 h4 h5 h6 _ rfl hp _ rfl hq _ rfl hr))
        · exact out_is (e.trans ((bind_ok hp).trans (bind_no hq))) (out_no hq (ar2q_sub nm B c k x a n s j y b m t w hs (by rw [hm]; decide) hk h1 h2 h3 h4 h5 h6 _ rfl hp _ rfl hq))
      · exact out_is (e.trans (bind_no hp)) (out_no hp (ar2p_sub nm B c k x a n s j y b m t w hs (by rw [hm]; decide) hk h1 h2 h3 h4 h5 h6 _ rfl hp))
  · refine out_is (show F2 .sub k n j m = bad 16 by show (if (isNumB k n && isNumB j m) = true then _ else _) = _; rw [if_neg hN]) (out_no (by decide) (ar2NB nm B c k x a n s j y b m t w hs (by rw [hm]; decide) ?_))
    cases h1 : isNumB k n <;> cases h2 : isNumB j m <;> simp_all
theorem ar2_mul (nm : ByteArray) (B c : Nat) (k : Int) (x : Bool) (a n : Int) (s : ByteArray) (j : Int) (y : Bool) (b m : Int) (t : ByteArray) (w : World) (hs : Rd w B (v2C k x a n s j y b m t)) (hm : nm.toList = Bi.mul.name) : Calls Tryd.prog 12 #[.string nm, .slice (some ⟨B, 0, none⟩) 2 c] w (Out w (F2 .mul k n j m)) := by
  by_cases hN : (isNumB k n && isNumB j m) = true
  · have hc := Bool.and_eq_true_iff.1 hN
    obtain ⟨h1, h2⟩ := fitB_true.1 (isNumB_true.1 hc.1).2
    obtain ⟨h3, h4⟩ := fitB_true.1 (isNumB_true.1 hc.2).2
    obtain ⟨h5, h6⟩ := prod_bd h1 h2 h3 h4
    have hN1 := hc.1
    have hN2 := hc.2
    by_cases hx : (isIntB k n && isIntB j m && fitB (n * m)) = true
    · have hy := Bool.and_eq_true_iff.1 hx
      have hz := Bool.and_eq_true_iff.1 hy.1
      exact out_is (show F2 .mul k n j m = ⟨1, n * m, 0⟩ by show (if (isNumB k n && isNumB j m) = true then (if (isIntB k n && isIntB j m && fitB (n * m)) = true then _ else _) else _) = _; rw [if_pos hN, if_pos hx]; rfl) (out_ok rfl (ar2x_mul nm B c k x a n s j y b m t w hs (by rw [hm]; decide) ⟨hN1, hN2, (int_eq hN1) ▸ hz.1, (int_eq hN2) ▸ hz.2⟩ h1 h2 h3 h4 h5 h6 hy.2))
    · have e : F2 .mul k n j m = bindR (asR k n) fun p => bindR (asR j m) fun q => gv (mulR p q) := by
        show (if (isNumB k n && isNumB j m) = true then (if (isIntB k n && isIntB j m && fitB (n * m)) = true then _ else _) else _) = _
        rw [if_pos hN, if_neg hx]; rfl
      rw [int_eq hN1, int_eq hN2] at hx
      have hk : (isNumB k n = true ∧ isNumB j m = true ∧ (k == 1) = false) ∨ (isNumB k n = true ∧ isNumB j m = true ∧ (k == 1) = true ∧ (j == 1) = false) ∨ (isNumB k n = true ∧ isNumB j m = true ∧ (k == 1) = true ∧ (j == 1) = true ∧ fitB (n * m) = false) := by
        cases h1 : (k == 1) <;> cases h2 : (j == 1) <;> cases h3 : fitB (n * m) <;> simp [h1, h2, h3, hN1, hN2] at hx ⊢
      by_cases hp : (asR k n).2 = 0
      · by_cases hq : (asR j m).2 = 0
        · by_cases hr : (mulR (asR k n).1 (asR j m).1).2 = 0
          · exact out_is (e.trans ((bind_ok hp).trans ((bind_ok hq).trans (gv_ok hr)))) (out_ok rfl (ar2rOk_mul nm B c k x a n s j y b m t w hs (by rw [hm]; decide) hk h1 h2 h3 h4 h5 h6 _ rfl hp _ rfl hq _ rfl hr))
          · exact out_is (e.trans ((bind_ok hp).trans ((bind_ok hq).trans (gv_no hr)))) (out_no hr (ar2rNo_mul nm B c k x a n s j y b m t w hs (by rw [hm]; decide) hk h1 h2 h3 h4 h5 h6 _ rfl hp _ rfl hq _ rfl hr))
        · exact out_is (e.trans ((bind_ok hp).trans (bind_no hq))) (out_no hq (ar2q_mul nm B c k x a n s j y b m t w hs (by rw [hm]; decide) hk h1 h2 h3 h4 h5 h6 _ rfl hp _ rfl hq))
      · exact out_is (e.trans (bind_no hp)) (out_no hp (ar2p_mul nm B c k x a n s j y b m t w hs (by rw [hm]; decide) hk h1 h2 h3 h4 h5 h6 _ rfl hp))
  · refine out_is (show F2 .mul k n j m = bad 16 by show (if (isNumB k n && isNumB j m) = true then _ else _) = _; rw [if_neg hN]) (out_no (by decide) (ar2NB nm B c k x a n s j y b m t w hs (by rw [hm]; decide) ?_))
    cases h1 : isNumB k n <;> cases h2 : isNumB j m <;> simp_all
theorem ar2_div (nm : ByteArray) (B c : Nat) (k : Int) (x : Bool) (a n : Int) (s : ByteArray) (j : Int) (y : Bool) (b m : Int) (t : ByteArray) (w : World) (hs : Rd w B (v2C k x a n s j y b m t)) (hm : nm.toList = Bi.div.name) : Calls Tryd.prog 12 #[.string nm, .slice (some ⟨B, 0, none⟩) 2 c] w (Out w (F2 .div k n j m)) := by
  by_cases hN : (isNumB k n && isNumB j m) = true
  · have hc := Bool.and_eq_true_iff.1 hN
    obtain ⟨h1, h2⟩ := fitB_true.1 (isNumB_true.1 hc.1).2
    obtain ⟨h3, h4⟩ := fitB_true.1 (isNumB_true.1 hc.2).2
    obtain ⟨h5, h6⟩ := prod_bd h1 h2 h3 h4
    have hN1 := hc.1
    have hN2 := hc.2
    have e : F2 .div k n j m = bindR (asR k n) fun p => bindR (asR j m) fun q => gv (divR p q) := by
      show (if (isNumB k n && isNumB j m) = true then _ else _) = _
      rw [if_pos hN]; rfl
    have hk : (isNumB k n = true ∧ isNumB j m = true ∧ (k == 1) = false) ∨ (isNumB k n = true ∧ isNumB j m = true ∧ (k == 1) = true ∧ (j == 1) = false) ∨ (isNumB k n = true ∧ isNumB j m = true ∧ (k == 1) = true ∧ (j == 1) = true) := by
      cases h1 : (k == 1) <;> cases h2 : (j == 1) <;> simp [hN1, hN2]
    by_cases hp : (asR k n).2 = 0
    · by_cases hq : (asR j m).2 = 0
      · by_cases hr : (divR (asR k n).1 (asR j m).1).2 = 0
        · exact out_is (e.trans ((bind_ok hp).trans ((bind_ok hq).trans (gv_ok hr)))) (out_ok rfl (ar2rOk_div nm B c k x a n s j y b m t w hs (by rw [hm]; decide) hk h1 h2 h3 h4 h5 h6 _ rfl hp _ rfl hq _ rfl hr))
        · exact out_is (e.trans ((bind_ok hp).trans ((bind_ok hq).trans (gv_no hr)))) (out_no hr (ar2rNo_div nm B c k x a n s j y b m t w hs (by rw [hm]; decide) hk h1 h2 h3 h4 h5 h6 _ rfl hp _ rfl hq _ rfl hr))
      · exact out_is (e.trans ((bind_ok hp).trans (bind_no hq))) (out_no hq (ar2q_div nm B c k x a n s j y b m t w hs (by rw [hm]; decide) hk h1 h2 h3 h4 h5 h6 _ rfl hp _ rfl hq))
    · exact out_is (e.trans (bind_no hp)) (out_no hp (ar2p_div nm B c k x a n s j y b m t w hs (by rw [hm]; decide) hk h1 h2 h3 h4 h5 h6 _ rfl hp))
  · refine out_is (show F2 .div k n j m = bad 16 by show (if (isNumB k n && isNumB j m) = true then _ else _) = _; rw [if_neg hN]) (out_no (by decide) (ar2NB nm B c k x a n s j y b m t w hs (by rw [hm]; decide) ?_))
    cases h1 : isNumB k n <;> cases h2 : isNumB j m <;> simp_all
theorem ar2 (o : Bi) (nm : ByteArray) (B c : Nat) (k : Int) (x : Bool) (a n : Int) (s : ByteArray) (j : Int) (y : Bool) (b m : Int) (t : ByteArray) (w : World) (hs : Rd w B (v2C k x a n s j y b m t)) (hm : nm.toList = o.name) : Calls Tryd.prog 12 #[.string nm, .slice (some ⟨B, 0, none⟩) 2 c] w (Out w (F2 o k n j m)) := by
  cases o with
  | add => exact ar2_add nm B c k x a n s j y b m t w hs hm
  | sub => exact ar2_sub nm B c k x a n s j y b m t w hs hm
  | mul => exact ar2_mul nm B c k x a n s j y b m t w hs hm
  | div => exact ar2_div nm B c k x a n s j y b m t w hs hm
  | idiv => exact ar2_idiv nm B c k x a n s j y b m t w hs hm
  | mod => exact ar2_mod nm B c k x a n s j y b m t w hs hm
  | and => exact ar2_and nm B c k x a n s j y b m t w hs hm
  | or => exact ar2_or nm B c k x a n s j y b m t w hs hm
  | xor => exact ar2_xor nm B c k x a n s j y b m t w hs hm
  | bitshift => exact ar2_bitshift nm B c k x a n s j y b m t w hs hm
  | gt => exact ar2_gt nm B c k x a n s j y b m t w hs hm
  | ge => exact ar2_ge nm B c k x a n s j y b m t w hs hm
  | lt => exact ar2_lt nm B c k x a n s j y b m t w hs hm
  | le => exact ar2_le nm B c k x a n s j y b m t w hs hm
end Go.Proofs.YtmbnlklinmmkdaaDoor.One
