import Derived.Test.YtmbnlklinmmkdaaDoorALeaf
import Derived.Test.YtmbnlklinmmkdaaDoorQ8
namespace Go.Proofs.YtmbnlklinmmkdaaDoor.Bitw
open Go.RowKit Go.Proofs.YtmbnlklinmmkdaaDoorW.PrintWords Go.Proofs.YtmbnlklinmmkdaaDoorW.PrintLast Go.Proofs.YtmbnlklinmmkdaaDoorW.PrintMore
open Go.Proofs.YtmbnlklinmmkdaaDoor.Sem Go.Proofs.YtmbnlklinmmkdaaDoor.Pure Go.Proofs.YtmbnlklinmmkdaaDoor.PArithDoes
def lg : Bi → Bool → Bool → Bool
  | .and, p, q => p && q
  | .or, p, q => p || q
  | _, p, q => p != q
def opN : Bi → Nat → Nat → Nat
  | .and, x, y => x &&& y
  | .or, x, y => x ||| y
  | _, x, y => x ^^^ y
theorem opN_bit (o : Bi) (x y i : Nat) : (opN o x y).testBit i = lg o (x.testBit i) (y.testBit i) := by
  cases o <;> simp [opN, lg]
theorem opN_lt (o : Bi) {x y : Nat} (hx : x < 2 ^ 32) (hy : y < 2 ^ 32) : opN o x y < 2 ^ 32 := by
  cases o <;> first | exact Nat.and_lt_two_pow _ hy | exact Nat.or_lt_two_pow hx hy | exact Nat.xor_lt_two_pow hx hy
theorem odd_bit (a : Int) (i : Nat) (hi : i < 32) : (Int.tmod (a / 2 ^ i) 2 != 0) = (a % 4294967296).toNat.testBit i := by
  have h1 : (a / 2 ^ i) % 2 = ((((a % 4294967296).toNat / 2 ^ i % 2 : Nat)) : Int) := by
    have hc : i = 0 ∨ i = 1 ∨ i = 2 ∨ i = 3 ∨ i = 4 ∨ i = 5 ∨ i = 6 ∨ i = 7 ∨ i = 8 ∨ i = 9 ∨ i = 10 ∨ i = 11 ∨ i = 12 ∨ i = 13 ∨ i = 14 ∨ i = 15 ∨ i = 16 ∨ i = 17 ∨ i = 18 ∨ i = 19 ∨ i = 20 ∨ i = 21 ∨ i = 22 ∨ i = 23 ∨ i = 24 ∨ i = 25 ∨ i = 26 ∨ i = 27 ∨ i = 28 ∨ i = 29 ∨ i = 30 ∨ i = 31 := by omega
    clear hi
    rcases hc with rfl | rfl | rfl | rfl | rfl | rfl | rfl | rfl | rfl | rfl | rfl | rfl | rfl | rfl | rfl | rfl | rfl | rfl | rfl | rfl | rfl | rfl | rfl | rfl | rfl | rfl | rfl | rfl | rfl | rfl | rfl | rfl <;> omega
  rw [Nat.testBit_eq_decide_div_mod_eq]
  generalize (a % 4294967296).toNat / 2 ^ i % 2 = r at *
  generalize a / 2 ^ i = v at *
  have h2 : v.tmod 2 = 0 ↔ v % 2 = 0 := by
    rw [← Int.dvd_iff_tmod_eq_zero, Int.dvd_iff_emod_eq_zero]
  by_cases hr : r = 1
  · rw [decide_eq_true hr]
    exact bne_iff_ne.mpr (fun h => by have := h2.1 h; omega)
  · rw [decide_eq_false hr]
    exact bne_eq_false_iff_eq.mpr (h2.2 (by omega))
theorem logic_eq {nm : ByteArray} (o : Bi) (ho : o = .and ∨ o = .or ∨ o = .xor) (hm : nm.toList = o.name) (p q : Bool) : mezzotintref05_logic.f nm p q = some (lg o p q) := by
  unfold mezzotintref05_logic.f
  rw [hm]
  rcases ho with rfl | rfl | rfl
  · rw [if_pos (by rfl)]; cases p <;> rfl
  · rw [if_neg (by decide), if_pos (by rfl)]; cases p <;> rfl
  · rw [if_neg (by decide), if_neg (by decide)]; rfl
def sg (x : Nat) : Int := if (x : Int) ≥ 2147483648 then (x : Int) - 4294967296 else x
theorem mod_next (x i : Nat) : x % 2 ^ (i + 1) = x % 2 ^ i + (if x.testBit i = true then 2 ^ i else 0) := by
  rw [Nat.mod_pow_succ, Nat.testBit_eq_decide_div_mod_eq]
  have h : x / 2 ^ i % 2 < 2 := Nat.mod_lt _ (by decide)
  by_cases c : x / 2 ^ i % 2 = 1
  · rw [c, decide_eq_true rfl, if_pos rfl, Nat.mul_one]
  · rw [show x / 2 ^ i % 2 = 0 by omega, if_neg (by decide), Nat.mul_zero]
theorem loop_eq {nm : ByteArray} (o : Bi) (ho : o = .and ∨ o = .or ∨ o = .xor) (hm : nm.toList = o.name) (a b : Int) :
    ∀ d k i : Nat, i + d = 32 → d < k → mezzotintref05_bitwise.l0 k nm a b (((opN o (a % 4294967296).toNat (b % 4294967296).toNat % 2 ^ i : Nat)) : Int) (i : Int) = some (sg (opN o (a % 4294967296).toNat (b % 4294967296).toNat)) := by
  have hX := opN_lt o (x := (a % 4294967296).toNat) (y := (b % 4294967296).toNat) (by omega) (by omega)
  have hbit := opN_bit o (a % 4294967296).toNat (b % 4294967296).toNat
  intro d
  induction d with
  | zero =>
    intro k i hi hk
    obtain ⟨k, rfl⟩ : ∃ m, k = m + 1 := ⟨k - 1, by omega⟩
    obtain rfl : i = 32 := by omega
    simp only [mezzotintref05_bitwise.l0]
    rw [if_neg (by decide), Nat.mod_eq_of_lt hX]
    unfold sg
    split
    · rw [w64 (by omega) (by omega)]
    · rfl
  | succ d ih =>
    intro k i hi hk
    obtain ⟨k, rfl⟩ : ∃ m, k = m + 1 := ⟨k - 1, by omega⟩
    have hi32 : i < 32 := by omega
    have hu : IntKind.u64.wrap (i : Int) = i := by rw [IntKind.wrap_u64]; omega
    have hp : (2 : Nat) ^ i ≤ 2 ^ 31 := Nat.pow_le_pow_right (by decide) (by omega)
    have hm64 : min ((i : Int)).toNat IntKind.i64.bits = i := by show min i 64 = i; omega
    have hlt : opN o (a % 4294967296).toNat (b % 4294967296).toNat % 2 ^ i < 2 ^ i := Nat.mod_lt _ (Nat.pow_pos (by decide))
    simp only [mezzotintref05_bitwise.l0]
    rw [if_pos (by omega), hu, if_pos (by omega)]
    unfold shr shl
    rw [hm64, odd_bit a i hi32, odd_bit b i hi32, logic_eq o ho hm, Option.bind_some, ← hbit i]
    have e1 : wrap64 ((i : Int) + 1) = ((i + 1 : Nat) : Int) := by rw [w64 (by omega) (by omega)]; rfl
    have hn := mod_next (opN o (a % 4294967296).toNat (b % 4294967296).toNat) i
    have e3 : (1 : Int) * 2 ^ i = ((2 ^ i : Nat) : Int) := by rw [Int.one_mul]; exact (Int.natCast_pow 2 i).symm
    have e4 : IntKind.i64.wrap ((2 ^ i : Nat) : Int) = ((2 ^ i : Nat) : Int) := by
      rw [IntKind.wrap_i64]; generalize (2 : Nat) ^ i = P at *; omega
    have := ih k (i + 1) (by omega) (by omega)
    rw [hn] at this
    by_cases c : (opN o (a % 4294967296).toNat (b % 4294967296).toNat).testBit i = true
    · rw [if_pos c, e1, e3, e4]
      rw [if_pos c] at this
      rw [w64 (by omega) (by omega)]
      rw [show (((opN o (a % 4294967296).toNat (b % 4294967296).toNat % 2 ^ i : Nat) : Int) + ((2 ^ i : Nat) : Int)) = ((opN o (a % 4294967296).toNat (b % 4294967296).toNat % 2 ^ i + 2 ^ i : Nat) : Int) from rfl]
      exact this
    · rw [if_neg c, e1]
      rw [if_neg c, Nat.add_zero] at this
      exact this
theorem bitwise_sg {nm : ByteArray} (o : Bi) (ho : o = .and ∨ o = .or ∨ o = .xor) (hm : nm.toList = o.name) (a b : Int) :
    mezzotintref05_bitwise.f 40 nm a b = some (sg (opN o (a % 4294967296).toNat (b % 4294967296).toNat)) := by
  have := loop_eq o ho hm a b 32 40 0 (by omega) (by omega)
  rw [Nat.pow_zero, Nat.mod_one] at this
  exact this
theorem bmod64 (x : Int) : Int.bmod x (2 ^ 64) = if x % 18446744073709551616 < 9223372036854775808 then x % 18446744073709551616 else x % 18446744073709551616 - 18446744073709551616 := rfl
theorem bmod32 (x : Int) : Int.bmod x (2 ^ 32) = if x % 4294967296 < 2147483648 then x % 4294967296 else x % 4294967296 - 4294967296 := rfl
theorem ext32 {a : Int} (h : fitB a = true) : BitVec.ofInt 64 a = (BitVec.ofInt 32 a).signExtend 64 := by
  have hb := fitB_true.1 h
  apply BitVec.eq_of_toInt_eq
  rw [BitVec.toInt_signExtend_of_le (by omega), BitVec.toInt_ofInt, BitVec.toInt_ofInt, bmod64, bmod32]
  split <;> split <;> omega
theorem wrap_toNat (x : BitVec 64) : IntKind.i64.wrap (x.toNat : Int) = x.toInt := by
  rw [IntKind.wrap_i64, BitVec.toInt_eq_toNat_bmod]
  have := x.isLt
  rw [bmod64]
  split <;> omega
theorem sg_toInt (x : BitVec 32) : sg x.toNat = x.toInt := by
  have := x.isLt
  unfold sg
  rw [BitVec.toInt_eq_toNat_bmod, bmod32]
  split <;> split <;> omega
theorem bits32 (o : Bi) (ho : o = .and ∨ o = .or ∨ o = .xor) {a b : Int} (ha : fitB a = true) (hb : fitB b = true) : sg (opN o (a % 4294967296).toNat (b % 4294967296).toNat) = bitF o a b := by
  have ea : (a % 4294967296).toNat = (BitVec.ofInt 32 a).toNat := by rw [BitVec.toNat_ofInt]; rfl
  have eb : (b % 4294967296).toNat = (BitVec.ofInt 32 b).toNat := by rw [BitVec.toNat_ofInt]; rfl
  rw [ea, eb]
  rcases ho with rfl | rfl | rfl
  · show sg ((BitVec.ofInt 32 a).toNat &&& (BitVec.ofInt 32 b).toNat) = IntKind.i64.wrap ((BitVec.ofInt 64 a &&& BitVec.ofInt 64 b).toNat : Int)
    rw [← BitVec.toNat_and, sg_toInt, wrap_toNat, ext32 ha, ext32 hb, ← BitVec.signExtend_and, BitVec.toInt_signExtend_of_le (by omega)]
  · show sg ((BitVec.ofInt 32 a).toNat ||| (BitVec.ofInt 32 b).toNat) = IntKind.i64.wrap ((BitVec.ofInt 64 a ||| BitVec.ofInt 64 b).toNat : Int)
    rw [← BitVec.toNat_or, sg_toInt, wrap_toNat, ext32 ha, ext32 hb, ← BitVec.signExtend_or, BitVec.toInt_signExtend_of_le (by omega)]
  · show sg ((BitVec.ofInt 32 a).toNat ^^^ (BitVec.ofInt 32 b).toNat) = IntKind.i64.wrap ((BitVec.ofInt 64 a ^^^ BitVec.ofInt 64 b).toNat : Int)
    rw [← BitVec.toNat_xor, sg_toInt, wrap_toNat, ext32 ha, ext32 hb, ← BitVec.signExtend_xor, BitVec.toInt_signExtend_of_le (by omega)]
theorem bitwise_eq {nm : ByteArray} (o : Bi) (ho : o = .and ∨ o = .or ∨ o = .xor) (hm : nm.toList = o.name) {a b : Int} (ha : fitB a = true) (hb : fitB b = true) :
    mezzotintref05_bitwise.f 40 nm a b = some (bitF o a b) := by rw [bitwise_sg o ho hm, bits32 o ho ha hb]
end Go.Proofs.YtmbnlklinmmkdaaDoor.Bitw
