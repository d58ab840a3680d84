import Derived.Test.YtmbnlklinmmkdaaDoorTurnsC
namespace Go.Proofs.YtmbnlklinmmkdaaDoor.Pure
open Go.RowKit Go.Proofs.YtmbnlklinmmkdaaDoor.Sem Go.Proofs.YtmbnlklinmmkdaaDoor.Turns
structure R3 where
  k : Int
  n : Int
  e : Int
inductive Un where
  | neg | abs | ceiling | floor | round | truncate | sqrt | sin | cos | not
inductive Bi where
  | add | sub | mul | div | idiv | mod | and | or | xor | bitshift | gt | ge | lt | le
def Un.name : Un → List UInt8
  | .neg => [110, 101, 103]
  | .abs => [97, 98, 115]
  | .ceiling => [99, 101, 105, 108, 105, 110, 103]
  | .floor => [102, 108, 111, 111, 114]
  | .round => [114, 111, 117, 110, 100]
  | .truncate => [116, 114, 117, 110, 99, 97, 116, 101]
  | .sqrt => [115, 113, 114, 116]
  | .sin => [115, 105, 110]
  | .cos => [99, 111, 115]
  | .not => [110, 111, 116]
def Bi.name : Bi → List UInt8
  | .add => [97, 100, 100]
  | .sub => [115, 117, 98]
  | .mul => [109, 117, 108]
  | .div => [100, 105, 118]
  | .idiv => [105, 100, 105, 118]
  | .mod => [109, 111, 100]
  | .and => [97, 110, 100]
  | .or => [111, 114]
  | .xor => [120, 111, 114]
  | .bitshift => [98, 105, 116, 115, 104, 105, 102, 116]
  | .gt => [103, 116]
  | .ge => [103, 101]
  | .lt => [108, 116]
  | .le => [108, 101]
def isNumB (k n : Int) : Bool := (k == 1 || k == 2) && fitB n
def isIntB (k n : Int) : Bool := k == 1 && fitB n
def isTruB (k n : Int) : Bool := k == 3 && (n == 0 || n == 1)
theorem isNumB_true {k n : Int} : isNumB k n = true ↔ (k = 1 ∨ k = 2) ∧ fitB n = true := by unfold isNumB; simp
theorem isIntB_true {k n : Int} : isIntB k n = true ↔ k = 1 ∧ fitB n = true := by unfold isIntB; simp
theorem isTruB_true {k n : Int} : isTruB k n = true ↔ k = 3 ∧ (n = 0 ∨ n = 1) := by unfold isTruB; simp
def asR (k n : Int) : Int × Int := if k = 1 then (if -32768 ≤ n ∧ n ≤ 32767 then (n * 65536, 0) else (0, 11)) else (n, 0)
def sc (k n : Int) : Int := if k = 1 then n * 65536 else n
def gv (r : Int × Int) : R3 := if r.2 = 0 then ⟨2, r.1, 0⟩ else ⟨0, 0, r.2⟩
def bindR (r : Int × Int) (f : Int → R3) : R3 := if r.2 = 0 then f r.1 else ⟨0, 0, r.2⟩
def bad (e : Int) : R3 := ⟨0, 0, e⟩
def tv (b : Bool) : R3 := ⟨3, if b = true then 1 else 0, 0⟩
def floorF (a : Int) : Int := if fitB a = true then a - a % 65536 else 0
def ceilR (a : Int) : Int × Int := if fitB a = true then keepR (a + 65535 - (a + 65535) % 65536) else (0, 11)
def roundR (a : Int) : Int × Int := if fitB a = true then keepR (a + 32768 - (a + 32768) % 65536) else (0, 11)
def truncF (a : Int) : Int := if fitB a = true then (if a < 0 then a + (-a) % 65536 else a - a % 65536) else 0
def negR (k n : Int) : R3 := if (k == 1 && fitB (-n)) = true then ⟨1, -n, 0⟩ else bindR (asR k n) fun m => gv (subR 0 m)
def wh (k n : Int) (r : Int × Int) : R3 := if k = 1 then ⟨1, n, 0⟩ else gv r
noncomputable def N1 : Un → Int → Int → R3
  | .neg, k, n => negR k n
  | .abs, k, n => if n ≥ 0 then ⟨k, n, 0⟩ else negR k n
  | .ceiling, k, n => wh k n (ceilR n)
  | .round, k, n => wh k n (roundR n)
  | .floor, k, n => wh k n (floorF n, 0)
  | .truncate, k, n => wh k n (truncF n, 0)
  | .sqrt, k, n => bindR (asR k n) fun m => gv (sqrtR m)
  | .sin, k, n => bindR (asR k n) fun m => gv ((rotM m).b, (rotM m).s)
  | .cos, k, n => bindR (asR k n) fun m => gv ((rotM m).a, (rotM m).s)
  | .not, _, _ => bad 16
def notR (k n : Int) : R3 := if isTruB k n = true then tv (n == 0) else if isIntB k n = true then ⟨1, -1 - n, 0⟩ else bad 16
noncomputable def F1 (u : Un) (k n : Int) : R3 :=
  match u with
  | .not => notR k n
  | u => if isNumB k n = true then N1 u k n else bad 16
def bitF : Bi → Int → Int → Int
  | .and, a, b => Go.bits .and .i64 a b
  | .or, a, b => Go.bits .or .i64 a b
  | _, a, b => Go.bits .xor .i64 a b
def shF (a b : Int) : Int := if b > 31 ∨ b < -31 then 0 else if b ≥ 0 then wrap32 ((a % 4294967296 * 2 ^ b.toNat) % 4294967296) else wrap32 (a % 4294967296 / 2 ^ (-b).toNat)
def exF : Bi → Int → Int → Int
  | .add, a, b => a + b
  | .sub, a, b => a - b
  | _, a, b => a * b
def inF : Bi → Int → Int → Int × Int
  | .add, a, b => addR a b
  | .sub, a, b => subR a b
  | .mul, a, b => mulR a b
  | _, a, b => divR a b
def realsR (o : Bi) (k n j m : Int) : R3 := bindR (asR k n) fun p => bindR (asR j m) fun q => gv (inF o p q)
def sumsR (o : Bi) (k n j m : Int) : R3 := if (isIntB k n && isIntB j m && fitB (exF o n m)) = true then ⟨1, exF o n m, 0⟩ else realsR o k n j m
def ordB : Bi → Int → Int → Bool
  | .lt, a, b => decide (a < b)
  | .le, a, b => decide (a ≤ b)
  | .gt, a, b => decide (a > b)
  | _, a, b => decide (a ≥ b)
def quoR (a b : Int) : R3 := if b = 0 then bad 18 else if fitB (a.tdiv b) = true then ⟨1, a.tdiv b, 0⟩ else bad 18
def modR (a b : Int) : R3 := if b = 0 then bad 18 else ⟨1, a.tmod b, 0⟩
def bitR (o : Bi) (k n j m : Int) : R3 := if (isTruB k n && isTruB j m) = true then ⟨3, bitF o n m, 0⟩ else if (isIntB k n && isIntB j m) = true then ⟨1, bitF o n m, 0⟩ else bad 16
def F2 (o : Bi) (k n j m : Int) : R3 :=
  match o with
  | .and => bitR .and k n j m
  | .or => bitR .or k n j m
  | .xor => bitR .xor k n j m
  | .idiv => if (isIntB k n && isIntB j m) = true then quoR n m else bad 16
  | .mod => if (isIntB k n && isIntB j m) = true then modR n m else bad 16
  | .bitshift => if (isIntB k n && isIntB j m) = true then ⟨1, shF n m, 0⟩ else bad 16
  | .div => if (isNumB k n && isNumB j m) = true then realsR .div k n j m else bad 16
  | .add => if (isNumB k n && isNumB j m) = true then sumsR .add k n j m else bad 16
  | .sub => if (isNumB k n && isNumB j m) = true then sumsR .sub k n j m else bad 16
  | .mul => if (isNumB k n && isNumB j m) = true then sumsR .mul k n j m else bad 16
  | o => if (isNumB k n && isNumB j m) = true then tv (ordB o (sc k n) (sc j m)) else bad 16
end Go.Proofs.YtmbnlklinmmkdaaDoor.Pure
