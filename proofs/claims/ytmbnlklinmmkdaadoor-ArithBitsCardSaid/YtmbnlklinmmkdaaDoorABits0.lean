/- What and, or, xor and the shifts come to on Ints: the plain law of ArithBits. -/
import Derived.Test.YtmbnlklinmmkdaaDoorABitw
namespace Go.Proofs.YtmbnlklinmmkdaaDoor.Bitw
open Go.RowKit Go.Proofs.YtmbnlklinmmkdaaDoorW.PrintWords Go.Proofs.YtmbnlklinmmkdaaDoorW.PrintLast Go.Proofs.YtmbnlklinmmkdaaDoorW.PrintMore
open Go.Proofs.YtmbnlklinmmkdaaDoor.Sem Go.Proofs.YtmbnlklinmmkdaaDoor.Leaf Go.Proofs.YtmbnlklinmmkdaaDoor.Pure Go.Proofs.YtmbnlklinmmkdaaDoor.PArithDoes

theorem or_parts (x y : BitVec 64) : x ||| y = (x &&& y) + (x ^^^ y) := by
  have h : (x &&& y) &&& (x ^^^ y) = 0#64 := by
    apply BitVec.eq_of_getLsbD_eq
    intro i hi
    simp only [BitVec.getLsbD_and, BitVec.getLsbD_xor, BitVec.getLsbD_zero]
    cases x.getLsbD i <;> cases y.getLsbD i <;> rfl
  rw [BitVec.add_eq_or_of_and_eq_zero _ _ h]
  apply BitVec.eq_of_getLsbD_eq
  intro i hi
  simp only [BitVec.getLsbD_and, BitVec.getLsbD_xor, BitVec.getLsbD_or]
  cases x.getLsbD i <;> cases y.getLsbD i <;> rfl
/-- What is in one alone is what is in either, less what is in both. -/
theorem or_and_xor {a b : Int} (ha : fitB a = true) (hb : fitB b = true) : bitF .or a b - bitF .and a b = bitF .xor a b := by
  have fa := fitB_true.1 (bitF_fit .and (by simp) ha hb)
  have fx := fitB_true.1 (bitF_fit .xor (by simp) ha hb)
  have e1 : bitF .or a b = (BitVec.ofInt 64 a ||| BitVec.ofInt 64 b).toInt := wrap_toNat _
  have e2 : bitF .and a b = (BitVec.ofInt 64 a &&& BitVec.ofInt 64 b).toInt := wrap_toNat _
  have e3 : bitF .xor a b = (BitVec.ofInt 64 a ^^^ BitVec.ofInt 64 b).toInt := wrap_toNat _
  rw [e2] at fa
  rw [e3] at fx
  rw [e1, e2, e3, or_parts, BitVec.toInt_add, bmod64]
  split <;> omega
theorem F2_bit (o : Bi) (ho : o = .and ∨ o = .or ∨ o = .xor) {a b : Int} (ha : fitB a = true) (hb : fitB b = true) : F2 o 1 a 1 b = ⟨1, bitF o a b, 0⟩ := by
  rcases ho with rfl | rfl | rfl <;> simp [F2, bitR, isTruB, isIntB, ha, hb]
theorem F1_not {a : Int} (ha : fitB a = true) : F1 .not 1 a = ⟨1, -1 - a, 0⟩ := by
  show notR 1 a = _
  simp [notR, isTruB, isIntB, ha]
theorem F2_subOne {p q : Int} (hp : fitB p = true) (hq : fitB q = true) (hs : fitB (p - q) = true) : F2 .sub 1 p 1 q = ⟨1, p - q, 0⟩ := by
  show (if (isNumB 1 p && isNumB 1 q) = true then sumsR .sub 1 p 1 q else bad 16) = _
  simp [isNumB, isIntB, hp, hq, sumsR, exF, hs]
theorem F2_shift {a b : Int} (ha : fitB a = true) (hb : fitB b = true) : F2 .bitshift 1 a 1 b = ⟨1, shF a b, 0⟩ := by
  show (if (isIntB 1 a && isIntB 1 b) = true then (⟨1, shF a b, 0⟩ : R3) else bad 16) = _
  simp [isIntB, ha, hb]
theorem shF_fit (a b : Int) : fitB (shF a b) = true := by
  unfold shF
  split
  · decide
  · split
    · exact fitB_true.2 (wrap32_range _)
    · exact fitB_true.2 (wrap32_range _)
/-- To the left by k, and back. -/
theorem shF_left {a k : Int} (h0 : 0 ≤ k) (h1 : k ≤ 31) : shF a k = wrap32 ((a % 4294967296 * 2 ^ k.toNat) % 4294967296) := by
  unfold shF; rw [if_neg (by omega), if_pos h0]
theorem wrap32_mod (x : Int) (h0 : 0 ≤ x) (h1 : x < 4294967296) : wrap32 x % 4294967296 = x := by unfold wrap32; omega
theorem shF_back {a k : Int} (h0 : 0 ≤ k) (h1 : k ≤ 31) : shF (shF a k) (-k) = wrap32 ((a % 4294967296 * 2 ^ k.toNat) % 4294967296 / 2 ^ k.toNat) := by
  have z0 := Int.emod_nonneg (a % 4294967296 * 2 ^ k.toNat) (by decide : (4294967296 : Int) ≠ 0)
  have z1 := Int.emod_lt_of_pos (a % 4294967296 * 2 ^ k.toNat) (by decide : (0 : Int) < 4294967296)
  rw [shF_left h0 h1]
  generalize (a % 4294967296 * 2 ^ k.toNat) % 4294967296 = u at *
  by_cases hk : k = 0
  · subst hk
    rw [shF_left (by omega) (by omega), show (-(0 : Int)).toNat = 0 from rfl, show ((0 : Int)).toNat = 0 from rfl, Int.pow_zero, Int.mul_one, Int.ediv_one, wrap32_mod u z0 z1, Int.emod_eq_of_lt z0 z1]
  · unfold shF
    rw [if_neg (by omega), if_neg (by omega), wrap32_mod u z0 z1, show (-(-k)).toNat = k.toNat by omega]
end Go.Proofs.YtmbnlklinmmkdaaDoor.Bitw
