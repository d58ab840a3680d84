/- The walk of the program's sine: out of the table as the text lays it. -/
import Derived.Test.YtmbnlklinmmkdaaDoorAMat
import Derived.Test.YtmbnlklinmmkdaaDoorTurnsSem
namespace Go.Proofs.YtmbnlklinmmkdaaDoor.Turns
open Go.RowKit Go.Proofs.YtmbnlklinmmkdaaDoorW.PrintWords Go.Proofs.YtmbnlklinmmkdaaDoorW.PrintLast Go.Proofs.YtmbnlklinmmkdaaDoorW.PrintMore Go.Proofs.YtmbnlklinmmkdaaDoor.Base Go.Proofs.YtmbnlklinmmkdaaDoor.MatA Go.Proofs.YtmbnlklinmmkdaaDoor.Sem Go.Proofs.YtmbnlklinmmkdaaDoor.Ref

/-- The table lies in memory as the program's text has it. -/
def Tab (w : World) : Prop := ∀ i : Nat, i < 91 → w.cell? ⟨0, i, none⟩ = some (.int .i64 (sv i))

set_option maxHeartbeats 800000 in
set_option maxRecDepth 100000 in
theorem cSine1 (d : Int) (n : Nat) (ht : d.tmod 360 = (n : Int)) (hn : n ≤ 180) (w : World) (T : Tab w) : Calls Tryd.prog 81 #[.int .i64 d] w fun e w' => e = .returned (.int .i64 (s1 (n : Int))) ∧ w' = w := by
  have hw : IntKind.i64.wrap (n : Int) = (n : Int) := IntWalk.i64_in _ (by omega)
  have e1 : decide ((n : Int) > 180) = false := decide_eq_false (by omega)
  by_cases h : 90 < n
  · have e2 : decide ((n : Int) > 90) = true := decide_eq_true (by omega)
    obtain ⟨m, hm⟩ : ∃ m : Nat, m + n = 180 := ⟨180 - n, by omega⟩
    have hs : (180 - (n : Int)) = (m : Int) := by omega
    have hw2 : IntKind.i64.wrap (180 - (n : Int)) = (m : Int) := by rw [hs]; exact IntWalk.i64_in _ (by omega)
    have hc := T m (by omega)
    have hb : m < 91 := by omega
    have e : s1 (n : Int) = sv m := by unfold s1; rw [if_pos (by omega)]; congr 1; omega
    rw [e]
    clear T e hs hm
    go_enter Tryd.func81, Tryd.ntmps81
    go_wp2
    go_ret
    exact ⟨rfl, rfl⟩
  · have e2 : decide ((n : Int) > 90) = false := decide_eq_false (by omega)
    have hc := T n (by omega)
    have hb : n < 91 := by omega
    have e : s1 (n : Int) = sv n := by unfold s1; rw [if_neg (by omega)]; rfl
    rw [e]
    clear T e
    go_enter Tryd.func81, Tryd.ntmps81
    go_wp2
    go_ret
    exact ⟨rfl, rfl⟩

set_option maxHeartbeats 800000 in
set_option maxRecDepth 100000 in
theorem cSine (d : Int) (h0 : 0 ≤ d) (w : World) (T : Tab w) : Calls Tryd.prog 81 #[.int .i64 d] w fun e w' => e = .returned (.int .i64 (S (d % 360))) ∧ w' = w := by
  obtain ⟨n, hn⟩ : ∃ n : Nat, d % 360 = (n : Int) := ⟨(d % 360).toNat, by omega⟩
  have hl : n < 360 := by omega
  have ht : d.tmod 360 = (n : Int) := by rw [tmod_small h0]; exact hn
  rw [hn]
  by_cases h : n ≤ 180
  · have e : S (n : Int) = s1 (n : Int) := by unfold S; rw [if_neg (by omega)]
    rw [e]
    exact cSine1 d n ht h w T
  · obtain ⟨m, hm⟩ : ∃ m : Nat, m + 180 = n := ⟨n - 180, by omega⟩
    have e : S (n : Int) = - s1 (m : Int) := by unfold S; rw [if_pos (by omega)]; congr 2; omega
    rw [e]
    have hw : IntKind.i64.wrap (n : Int) = (n : Int) := IntWalk.i64_in _ (by omega)
    have e1 : decide ((n : Int) > 180) = true := decide_eq_true (by omega)
    have hs : ((n : Int) - 180) = (m : Int) := by omega
    have hw2 : IntKind.i64.wrap ((n : Int) - 180) = (m : Int) := by rw [hs]; exact IntWalk.i64_in _ (by omega)
    have hr := s1_range (m : Int)
    have hw3 : IntKind.i64.wrap (- s1 (m : Int)) = - s1 (m : Int) := IntWalk.i64_in _ (by omega)
    have hm2 : (m : Int).tmod 360 = (m : Int) := by rw [tmod_small (by omega)]; omega
    have HT := Aside0.mk T
    have hm3 : m ≤ 180 := by omega
    clear T e hs hm h hl hr h0 hn
    go_enter Tryd.func81, Tryd.ntmps81
    go_wp2_with (go_at_call 81; ((with_reducible refine (cSine1 _ m hm2 hm3 _ HT.out).mono ?_); rintro e w' ⟨rfl, rfl⟩))
    go_ret
    exact ⟨rfl, rfl⟩
end Go.Proofs.YtmbnlklinmmkdaaDoor.Turns
