/- '==' of points and of matrices, as one Bool. -/
import Derived.Test.YtkggogbgnphmpaaDoorMatA
import Derived.Test.YtkggogbgnphmpaaDoorWEqStruct
namespace Go.Proofs.YtkggogbgnphmpaaDoor.MatA
open Go.RowKit Go.Proofs.YtkggogbgnphmpaaDoorW.PrintWords Go.Proofs.YtkggogbgnphmpaaDoorW.PrintLast Go.Proofs.YtkggogbgnphmpaaDoorW.PrintMore

theorem eqInt (d : Nat) (x y : Int) (w : World) : (Op.equalIn (d + 1) 3 (.int .i64 x) (.int .i64 y)).run Tryd.prog w = .ok (x == y) w := by
  simp [Op.equalIn, go_sem]

theorem eqP (x y z u : Int) (w : World) : (binOp .eql 31 (pV x y) (pV z u)).run Tryd.prog w = .ok (.bool (x == z && y == u)) w := by
  simp only [binOp]
  have h : (Op.equalIn 10000 31 (pV x y) (pV z u)).run Tryd.prog w = .ok (x == z && y == u) w := by
    refine eqA_of (P := Tryd.prog) (d := 9999) Tryd.underlying31 (by kernel_rfl) ?_
    refine eqf_cons (a := .int .i64 x) (b := .int .i64 z) (by decide) (by simp [go_sem]) (by simp [go_sem]) (eqInt 9998 x z w) ?_
    exact eqf_end (a := .int .i64 y) (b := .int .i64 u) (by decide) (by simp [go_sem]) (by simp [go_sem]) (eqInt 9998 y u w) eqf_nil
  simp [Op.equal, Op.maxDepth, h]

theorem eqMIn (a0 a1 a2 a3 a4 a5 b0 b1 b2 b3 b4 b5 : Int) (w : World) : (Op.equalIn 10000 22 (mV a0 a1 a2 a3 a4 a5) (mV b0 b1 b2 b3 b4 b5)).run Tryd.prog w = .ok (a0 == b0 && (a1 == b1 && (a2 == b2 && (a3 == b3 && (a4 == b4 && a5 == b5))))) w := by
  rw [Op.equalIn]
  simp only [Sem.run_bind, run_underlying Tryd.underlying22, Result.andThen_ok]
  simp only [go_sem, Std.Legacy.Range.forIn_eq_forIn_range', Std.Legacy.Range.size, Nat.sub_zero, Nat.add_one_sub_one, Nat.div_one]
  simp only [show List.range' 0 6 1 = [0, 1, 2, 3, 4, 5] from rfl, List.forIn_cons, List.forIn_nil]
  by_cases e0 : a0 = b0
  · by_cases e1 : a1 = b1
    · by_cases e2 : a2 = b2
      · by_cases e3 : a3 = b3
        · by_cases e4 : a4 = b4
          · by_cases e5 : a5 = b5
            · simp [go_sem, eqInt, e0, e1, e2, e3, e4, e5]
            · simp [go_sem, eqInt, e0, e1, e2, e3, e4, e5]
          · simp [go_sem, eqInt, e0, e1, e2, e3, e4]
        · simp [go_sem, eqInt, e0, e1, e2, e3]
      · simp [go_sem, eqInt, e0, e1, e2]
    · simp [go_sem, eqInt, e0, e1]
  · simp [go_sem, eqInt, e0]

theorem eqM (a0 a1 a2 a3 a4 a5 b0 b1 b2 b3 b4 b5 : Int) (w : World) : (binOp .eql 22 (mV a0 a1 a2 a3 a4 a5) (mV b0 b1 b2 b3 b4 b5)).run Tryd.prog w = .ok (.bool (a0 == b0 && (a1 == b1 && (a2 == b2 && (a3 == b3 && (a4 == b4 && a5 == b5)))))) w := by
  simp only [binOp]
  simp [Op.equal, Op.maxDepth, eqMIn]
theorem eqM_self (a0 a1 a2 a3 a4 a5 : Int) (w : World) : (binOp .eql 22 (mV a0 a1 a2 a3 a4 a5) (mV a0 a1 a2 a3 a4 a5)).run Tryd.prog w = .ok (.bool true) w := by
  rw [eqM]; simp
theorem eqP_self (x y : Int) (w : World) : (binOp .eql 31 (pV x y) (pV x y)).run Tryd.prog w = .ok (.bool true) w := by
  rw [eqP]; simp

theorem neqP_self (x y : Int) (w : World) : (binOp .neq 31 (pV x y) (pV x y)).run Tryd.prog w = .ok (.bool false) w := by
  have h : (Op.equalIn 10000 31 (pV x y) (pV x y)).run Tryd.prog w = .ok true w := by
    refine eqA_of (P := Tryd.prog) (d := 9999) Tryd.underlying31 (by kernel_rfl) ?_
    have e : ∀ z : Int, (z == z) = true := fun z => by simp
    refine (eqf_cons (r := true) (s := true) (a := .int .i64 x) (b := .int .i64 x) (by decide) (by simp [go_sem]) (by simp [go_sem]) ((eqInt 9998 x x w).trans (by rw [e])) ?_)
    exact eqf_end (a := .int .i64 y) (b := .int .i64 y) (by decide) (by simp [go_sem]) (by simp [go_sem]) ((eqInt 9998 y y w).trans (by rw [e])) eqf_nil
  simp only [binOp]
  simp [Op.equal, Op.maxDepth, h]

set_option maxHeartbeats 1600000 in
set_option maxRecDepth 100000 in
theorem cAnswers (w : World) : Calls Tryd.prog 6 #[] w fun e w' => e = .returned (.bool true) ∧ Below w.heap.size w w' := by
  have hq := fun w => eqP_self 131072 196608 w
  have hv := Aside0.mk (show Sem.applyA 131072 0 0 196608 0 0 65536 65536 = (131072, 196608, 0) by decide +kernel)
  go_enter Tryd.func6, Tryd.ntmps6
  go_wp2_with fail
  refine (cStretch _ _ _).mono ?_
  rintro e w1 ⟨rfl, hB1⟩
  go_wp2_with fail
  refine (cApply _ _ _ _ _ _ _ _ _).mono ?_
  rintro e w2 ⟨rfl, hB2⟩
  rw [hv.out]
  go_wp2_with fail
  go_ret
  exact ⟨rfl, below_alloc (below_step hB1 hB2) _⟩
end Go.Proofs.YtkggogbgnphmpaaDoor.MatA
