import Derived.Test.YtmbnlklinmmkdaaDoorAOneB
import Derived.Shelf.Abstract
import Derived.Deep.LoopGhost
namespace Go.Proofs.YtmbnlklinmmkdaaDoor.One
open Go.RowKit Go.Proofs.YtmbnlklinmmkdaaDoorW.PrintWords Go.Proofs.YtmbnlklinmmkdaaDoorW.PrintLast Go.Proofs.YtmbnlklinmmkdaaDoorW.PrintMore
open Go.Shelf Go.Proofs.YtmbnlklinmmkdaaDoor.Sem Go.Proofs.YtmbnlklinmmkdaaDoor.Base Go.Proofs.YtmbnlklinmmkdaaDoor.Pure Go.Proofs.YtmbnlklinmmkdaaDoor.Leaf Go.Proofs.YtmbnlklinmmkdaaDoor.Turns Go.Proofs.YtmbnlklinmmkdaaDoor.MatA Go.Proofs.YtmbnlklinmmkdaaDoor.PArithDoes
set_option linter.unusedVariables false
def ixR (q0 q1 : Bool) : Int := if q0 = true then 0 else if q1 = true then 1 else -1
abbrev o2C (k : Int) (x : Bool) (a n : Int) (s : ByteArray) (r f l : Int) (j : Int) (y : Bool) (b m : Int) (t : ByteArray) (r2 f2 l2 : Int) : Array Value := #[.int .i64 k, .bool x, .int .i64 a, .int .i64 n, .string s, .int .i64 r, .int .i64 f, .int .i64 l, .int .i64 j, .bool y, .int .i64 b, .int .i64 m, .string t, .int .i64 r2, .int .i64 f2, .int .i64 l2]
set_option maxHeartbeats 1600000 in
set_option maxRecDepth 100000 in
theorem cPred (g : Nat) (k : Int) (x : Bool) (a n : Int) (s : ByteArray) (r f l : Int) (p : Bool) (c : Nat) (w : World) (eg : ∀ args w, (callFunc g args).run Tryd.prog w = .ok (.enter g args) w) (hc : w.cell? ⟨c, 0, none⟩ = some (.func (.func g) #[] #[]))
    (hg0 : ∀ W, Calls Tryd.prog g #[oV k x a n s r f l] W fun e w' => e = .returned (.bool p) ∧ Below W.heap.size W w') :
    Calls Tryd.prog 73 #[oV k x a n s r f l, .pointer (some ⟨c, 0, none⟩)] w fun e w' => e = .returned (.bool !p) ∧ Below w.heap.size w w' := by
  have hg := Aside0.mk hg0
  clear hg0
  have HB := Aside0.mk (Below.refl w.heap.size w)
  have hlt := World.block_lt_of_cell? w _ hc
  have hne : c ≠ w.heap.size := by dsimp only at hlt; omega
  go_enter Tryd.func73, Tryd.ntmps73
  go_wp2_with (go_at_fn g; ((with_reducible refine (hg.out _).mono ?_); rintro e w1 ⟨rfl, hb⟩))
  go_ret
  exact ⟨rfl, below_step (w := w) (by repeat (first | (with_reducible first | exact HB.out | apply below_alloc | apply pw_below_drewN | apply below_drew1) | (with_reducible refine below_set ?_ ?_) | omega)) hb⟩
set_option maxHeartbeats 3200000 in
set_option maxRecDepth 100000 in
theorem cIndex (B c : Nat) (k : Int) (x : Bool) (a n : Int) (s : ByteArray) (r f l : Int) (j : Int) (y : Bool) (b m : Int) (t : ByteArray) (r2 f2 l2 : Int) (T : TypeId) (q0 q1 : Bool) (w : World) (hs0 : Has w B (o2C k x a n s r f l j y b m t r2 f2 l2) T)
    (h0 : ∀ W, Below w.heap.size w W → Calls Tryd.prog 73 #[oV k x a n s r f l, .pointer (some ⟨c, 0, none⟩)] W fun e w' => e = .returned (.bool q0) ∧ Below W.heap.size W w')
    (h1 : ∀ W, Below w.heap.size w W → Calls Tryd.prog 73 #[oV j y b m t r2 f2 l2, .pointer (some ⟨c, 0, none⟩)] W fun e w' => e = .returned (.bool q1) ∧ Below W.heap.size W w') :
    Calls Tryd.prog 82 #[.slice (some ⟨B, 0, none⟩) 2 2, .func (.func 73) #[] #[.pointer (some ⟨c, 0, none⟩)]] w fun e w' => e = .returned (.int .i64 (ixR q0 q1)) ∧ Below w.heap.size w w' := by
  have hs := Aside0.mk hs0
  have H0 := Aside0.mk h0
  have H1 := Aside0.mk h1
  clear hs0 h0 h1
  go_enter Tryd.func82, Tryd.ntmps82
  go_wp2
  go_loopg [5, 8] 3 (fun gg _ s8 wr => ∃ kk : Nat, kk ≤ 2 ∧ 2 - kk ≤ gg ∧ s8 = .int .i64 kk ∧ Aside0 (Below w.heap.size w wr ∧ (0 < kk → q0 = false) ∧ (1 < kk → q1 = false)))
  case atStart => exact ⟨0, by omega, by omega, rfl, ⟨Below.refl _ w, fun h => absurd h (by omega), fun h => absurd h (by omega)⟩⟩
  case round =>
    obtain ⟨kk, hkk, hg, rfl, A⟩ := hrel
    have HS := Aside0.mk (Has.below hs.out (A.out.1))
    have HB := Aside0.mk A.out.1
    obtain ⟨c0, c1, c2, c3, c4, c5, c6, c7, c8, c9, c10, c11, c12, c13, c14, c15, lHS⟩ := c16 HS.out
    obtain rfl | rfl | rfl : kk = 0 ∨ kk = 1 ∨ kk = 2 := by omega
    · cases q0 with
      | true =>
        go_wp2_with (go_at_call 73; ((with_reducible refine (H0.out _ HB.out).mono ?_); rintro e w1 ⟨rfl, hb⟩))
        go_ret
        exact ⟨by rfl, below_step (w := w) HB.out hb⟩
      | false =>
        go_wp2_with (go_at_call 73; ((with_reducible refine (H0.out _ HB.out).mono ?_); rintro e w1 ⟨rfl, hb⟩))
        go_roundg (2 - (0 + 1))
        case measure => omega
        case rel => exact ⟨0 + 1, by omega, by omega, (by first | trivial | rfl | go_num), ⟨below_step (w := w) HB.out hb, fun _ => (by first | trivial | rfl), fun h => absurd h (by omega)⟩⟩
    · cases q1 with
      | true =>
        go_wp2_with (go_at_call 73; ((with_reducible refine (H1.out _ HB.out).mono ?_); rintro e w1 ⟨rfl, hb⟩))
        go_ret
        exact ⟨by rw [A.out.2.1 (by omega)]; rfl, below_step (w := w) HB.out hb⟩
      | false =>
        go_wp2_with (go_at_call 73; ((with_reducible refine (H1.out _ HB.out).mono ?_); rintro e w1 ⟨rfl, hb⟩))
        go_roundg (2 - (1 + 1))
        case measure => omega
        case rel => exact ⟨1 + 1, by omega, by omega, (by first | trivial | rfl | go_num), ⟨below_step (w := w) HB.out hb, fun _ => A.out.2.1 (by omega), fun _ => (by first | trivial | rfl)⟩⟩
    · have e0 := A.out.2.1 (by omega)
      have e1 := A.out.2.2 (by omega)
      have E := Aside0.mk (And.intro e0 e1)
      clear e0 e1
      go_wp2
      go_ret
      exact ⟨by rw [E.out.1, E.out.2]; rfl, HB.out⟩
set_option maxHeartbeats 1600000 in
set_option maxRecDepth 100000 in
theorem cAll (g : Nat) (B : Nat) (k : Int) (x : Bool) (a n : Int) (s : ByteArray) (r f l : Int) (j : Int) (y : Bool) (b m : Int) (t : ByteArray) (r2 f2 l2 : Int) (T : TypeId) (p0 p1 : Bool) (w : World) (eg : ∀ args w, (callFunc g args).run Tryd.prog w = .ok (.enter g args) w) (hs0 : Has w B (o2C k x a n s r f l j y b m t r2 f2 l2) T)
    (h0 : ∀ W, Calls Tryd.prog g #[oV k x a n s r f l] W fun e w' => e = .returned (.bool p0) ∧ Below W.heap.size W w')
    (h1 : ∀ W, Calls Tryd.prog g #[oV j y b m t r2 f2 l2] W fun e w' => e = .returned (.bool p1) ∧ Below W.heap.size W w') :
    Calls Tryd.prog 45 #[.slice (some ⟨B, 0, none⟩) 2 2, .func (.func g) #[] #[]] w fun e w' => e = .returned (.bool (p0 && p1)) ∧ Below w.heap.size w w' := by
  have hmf : ∀ (fn : Fn) (first cap : Array Value) (w : World), (Instr.makeFunc fn first cap).run Tryd.prog w = .ok (.func fn first cap) w := fun _ _ _ _ => rfl
  have hI := Aside0.mk (fun W (hW : Below w.heap.size w W) (hc : W.cell? ⟨w.heap.size, 0, none⟩ = some (.func (.func g) #[] #[])) =>
    cIndex B w.heap.size k x a n s r f l j y b m t r2 f2 l2 T (!p0) (!p1) W (Has.below hs0 hW)
      (fun W' hb => cPred g k x a n s r f l p0 w.heap.size W' eg ((hb.cell (p := ⟨w.heap.size, 0, none⟩) (World.block_lt_of_cell? W _ hc)).trans hc) h0)
      (fun W' hb => cPred g j y b m t r2 f2 l2 p1 w.heap.size W' eg ((hb.cell (p := ⟨w.heap.size, 0, none⟩) (World.block_lt_of_cell? W _ hc)).trans hc) h1))
  have HB := Aside0.mk (Below.refl w.heap.size w)
  clear hs0 h0 h1
  have HC := fun W hW hc => Aside0.mk (show Calls Tryd.prog 72 #[.slice (some ⟨B, 0, none⟩) 2 2, .func (.func 73) #[] #[.pointer (some ⟨w.heap.size, 0, none⟩)]] W fun e w' => e = .returned (.bool (decide (ixR (!p0) (!p1) ≥ 0))) ∧ Below W.heap.size W w' by
    go_enter Tryd.func72, Tryd.ntmps72
    go_wp2_with (go_at_call 82; ((with_reducible refine (hI.out W hW hc).mono ?_); rintro e w1 ⟨rfl, hb⟩))
    go_ret
    exact ⟨rfl, hb⟩)
  go_enter Tryd.func45, Tryd.ntmps45
  go_wp2_with (go_at_call 72; ((with_reducible refine (HC _ (by repeat (first | (with_reducible first | exact HB.out | apply below_alloc | apply pw_below_drewN | apply below_drew1) | (with_reducible refine below_set ?_ ?_) | omega)) (by simp)).out.mono ?_); rintro e w1 ⟨rfl, hb⟩))
  go_ret
  exact ⟨by cases p0 <;> cases p1 <;> rfl, below_step (w := w) (by repeat (first | (with_reducible first | exact HB.out | apply below_alloc | apply pw_below_drewN | apply below_drew1) | (with_reducible refine below_set ?_ ?_) | omega)) hb⟩
end Go.Proofs.YtmbnlklinmmkdaaDoor.One
