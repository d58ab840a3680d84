import Derived.Test.YtmbnlklinmmkdaaDoorRV
import Derived.Test.YtmbnlklinmmkdaaDoorABitw
namespace Go.Proofs.YtmbnlklinmmkdaaDoor.One
open Go.RowKit Go.Proofs.YtmbnlklinmmkdaaDoorW.PrintWords Go.Proofs.YtmbnlklinmmkdaaDoorW.PrintLast Go.Proofs.YtmbnlklinmmkdaaDoorW.PrintMore
open Go.Proofs.YtmbnlklinmmkdaaDoor.Ref Go.Proofs.YtmbnlklinmmkdaaDoor.Sem Go.Proofs.YtmbnlklinmmkdaaDoor.Base Go.Proofs.YtmbnlklinmmkdaaDoor.Pure Go.Proofs.YtmbnlklinmmkdaaDoor.Leaf Go.Proofs.YtmbnlklinmmkdaaDoor.Turns Go.Proofs.YtmbnlklinmmkdaaDoor.MatA Go.Proofs.YtmbnlklinmmkdaaDoor.PArithDoes
set_option linter.unusedVariables false
theorem stepL (x : Int) (y : Int) (h : 0 < y) : (x * 2 % 4294967296 * 2 ^ (y - 1).toNat) % 4294967296 = (x * 2 ^ y.toNat) % 4294967296 := by
  have e : y.toNat = (y - 1).toNat + 1 := by omega
  rw [e, Int.pow_succ, Int.mul_emod (x * 2 % 4294967296), Int.emod_emod, ← Int.mul_emod]; congr 1; rw [Int.mul_assoc, Int.mul_comm 2]
theorem stepR (x : Int) (y : Int) (h : y < 0) : x / 2 / 2 ^ (-(y + 1)).toNat = x / 2 ^ (-y).toNat := by
  have e : (-y).toNat = (-(y + 1)).toNat + 1 := by omega
  rw [e, Int.pow_succ, Int.mul_comm _ 2, Int.ediv_ediv, if_neg (fun h => absurd h.1 (by decide)), Int.sub_zero]
theorem sg32 (x : Int) (h0 : 0 ≤ x) (h1 : x < 4294967296) : wrap32 x = if x ≥ 2147483648 then x - 4294967296 else x := by unfold wrap32; split <;> omega
theorem shF_pos {a b : Int} (h0 : 0 ≤ b) (h1 : b ≤ 31) : shF a b = wrap32 ((a % 4294967296 * 2 ^ b.toNat) % 4294967296) := by
  unfold shF; rw [if_neg (by omega), if_pos h0]
theorem shF_neg {a b : Int} (h0 : b < 0) (h1 : -31 ≤ b) : shF a b = wrap32 (a % 4294967296 / 2 ^ (-b).toNat) := by
  unfold shF; rw [if_neg (by omega), if_neg (by omega)]
theorem small_r (q : Int) : mezzotintref01_Small.f q = some (fitB q) := by unfold mezzotintref01_Small.f; rw [rFits_eq]; rfl
theorem shF_far {a b : Int} (h : b > 31 ∨ b < -31) : shF a b = 0 := by unfold shF; rw [if_pos h]
set_option maxHeartbeats 3200000 in
set_option maxRecDepth 100000 in
theorem rShiftFar (nm : ByteArray) (a b : Int) (w : World) (q : (nm.toList == [98, 105, 116, 115, 104, 105, 102, 116]) = true) (ha : fitB a = true) (hb : fitB b = true) (c : b > 31 ∨ b < -31) : Calls Tryd.prog 26 #[.string nm, .int .i64 a, .int .i64 b] w (GotV w ⟨1, shF a b, 0⟩) := by
  have h1 := fitB_true.1 ha
  have h2 := fitB_true.1 hb
  clear ha hb
  have HB := Aside0.mk (Below.refl w.heap.size w)
  rw [shF_far c]
  rcases c with c | c
  all_goals
    go_enter Tryd.func26, Tryd.ntmps26
    go_wp2_with (first | (go_at_call 22; ((with_reducible refine (vWhole _ _).mono ?_); rintro e w1 ⟨rfl, hb⟩; have nHB := Aside0.mk (below_step (w := w) (by repeat (first | (with_reducible first | exact HB.out | apply below_alloc | apply pw_below_drewN | apply below_drew1) | (with_reducible refine below_set ?_ ?_) | omega)) hb); clear hb; clear HB; have HB := nHB; clear nHB; skip)) | (go_at_call 19; ((with_reducible refine (vOne 1 _ _).mono ?_); rintro e w2 ⟨g1, rfl, hg, hG, hb⟩; have hgg := Aside0.mk (Nat.le_trans (Below.size (show Below w.heap.size w _ from (by repeat (first | (with_reducible first | exact HB.out | apply below_alloc | apply pw_below_drewN | apply below_drew1) | (with_reducible refine below_set ?_ ?_) | omega)))) hg); have HG := Aside0.mk hG; have nHB := Aside0.mk (below_step (w := w) (by repeat (first | (with_reducible first | exact HB.out | apply below_alloc | apply pw_below_drewN | apply below_drew1) | (with_reducible refine below_set ?_ ?_) | omega)) hb); clear hg hG hb; clear HB; have HB := nHB; clear nHB; skip)))
    all_goals (go_ret2; exact ⟨g1, rfl, hgg.out, HG.out, HB.out⟩)
set_option maxHeartbeats 3200000 in
set_option maxRecDepth 100000 in
theorem rShiftL (nm : ByteArray) (a b : Int) (w : World) (q : (nm.toList == [98, 105, 116, 115, 104, 105, 102, 116]) = true) (ha : fitB a = true) (hb : fitB b = true) (c0 : 0 ≤ b) (c1 : b ≤ 31) : Calls Tryd.prog 26 #[.string nm, .int .i64 a, .int .i64 b] w (GotV w ⟨1, shF a b, 0⟩) := by
  have h1 := fitB_true.1 ha
  have h2 := fitB_true.1 hb
  clear ha hb
  have HB := Aside0.mk (Below.refl w.heap.size w)
  have hA0 := Int.emod_nonneg a (by decide : (4294967296 : Int) ≠ 0)
  have hA1 := Int.emod_lt_of_pos a (by decide : (0 : Int) < 4294967296)
  obtain ⟨A, hA⟩ : ∃ A, a % 4294967296 = A := ⟨_, rfl⟩
  obtain ⟨R, hR⟩ : ∃ R, (A * 2 ^ b.toNat) % 4294967296 = R := ⟨_, rfl⟩
  have hR0 := Int.emod_nonneg (A * 2 ^ b.toNat) (by decide : (4294967296 : Int) ≠ 0)
  have hR1 := Int.emod_lt_of_pos (A * 2 ^ b.toNat) (by decide : (0 : Int) < 4294967296)
  rw [hR] at hR0 hR1
  have HS := Aside0.mk (show shF a b = wrap32 R by rw [shF_pos c0 c1, hA, hR])
  have HRR := Aside0.mk hR
  rw [hA] at hA0 hA1
  have hs : (a < 0 ∧ A = a + 4294967296) ∨ (0 ≤ a ∧ A = a) := by omega
  clear hA hR
  rcases hs with ⟨s1, s2⟩ | ⟨s1, s2⟩
  all_goals
    have HAA := Aside0.mk s2
    clear s2
    go_enter Tryd.func26, Tryd.ntmps26
    go_wp2
    go_loop [1, 2] (fun v1 v2 => ∃ x y : Int, v1 = .int .i64 x ∧ v2 = .int .i64 y ∧ Aside0 ((x * 2 ^ y.toNat) % 4294967296 = R ∧ 0 ≤ x ∧ x < 4294967296 ∧ 0 ≤ y ∧ y ≤ 31)) (fun _ v2 => (intOf v2).toNat)
    case atStart => exact ⟨_, _, rfl, rfl, ⟨by rw [← HAA.out]; exact HRR.out, by omega, by omega, c0, c1⟩⟩
    case round =>
      obtain ⟨x, y, rfl, rfl, hx⟩ := hrel
      obtain ⟨x0, x1⟩ := And.intro hx.out.2.1 hx.out.2.2.1
      obtain ⟨y0, y1⟩ := hx.out.2.2.2
      by_cases hlt : 0 < y
      · have z0 := Int.emod_nonneg (x * 2) (by decide : (4294967296 : Int) ≠ 0)
        have z1 := Int.emod_lt_of_pos (x * 2) (by decide : (0 : Int) < 4294967296)
        go_wp2
        go_round
        case rel => exact ⟨_, _, rfl, rfl, ⟨(stepL x y hlt).trans hx.out.1, z0, z1, by omega, by omega⟩⟩
        case measure => simp [intOf]; omega
      · obtain rfl : y = 0 := by omega
        obtain rfl : x = R := by have := hx.out.1; rw [show ((0 : Int)).toNat = 0 from rfl, Int.pow_zero, Int.mul_one] at this; omega
        clear hlt
        go_wp2
        go_loop [1, 2] (fun v1 v2 => v1 = .int .i64 x ∧ v2 = .int .i64 0) (fun _ _ => 0)
        case atStart => exact ⟨rfl, rfl⟩
        case round =>
          obtain ⟨rfl, rfl⟩ := hrel
          by_cases cs : x ≥ 2147483648
          · have E := Aside0.mk (show shF a b = x - 4294967296 by rw [HS.out, sg32 _ (by omega) (by omega)]; exact if_pos cs)
            go_wp2_with (first | (go_at_call 22; ((with_reducible refine (vWhole _ _).mono ?_); rintro e w1 ⟨rfl, hb⟩; have nHB := Aside0.mk (below_step (w := w) (by repeat (first | (with_reducible first | exact HB.out | apply below_alloc | apply pw_below_drewN | apply below_drew1) | (with_reducible refine below_set ?_ ?_) | omega)) hb); clear hb; clear HB; have HB := nHB; clear nHB; skip)) | (go_at_call 19; ((with_reducible refine (vOne 1 _ _).mono ?_); rintro e w2 ⟨g1, rfl, hg, hG, hb⟩; have hgg := Aside0.mk (Nat.le_trans (Below.size (show Below w.heap.size w _ from (by repeat (first | (with_reducible first | exact HB.out | apply below_alloc | apply pw_below_drewN | apply below_drew1) | (with_reducible refine below_set ?_ ?_) | omega)))) hg); have HG := Aside0.mk hG; have nHB := Aside0.mk (below_step (w := w) (by repeat (first | (with_reducible first | exact HB.out | apply below_alloc | apply pw_below_drewN | apply below_drew1) | (with_reducible refine below_set ?_ ?_) | omega)) hb); clear hg hG hb; clear HB; have HB := nHB; clear nHB; skip)))
            go_ret2
            exact ⟨g1, rfl, hgg.out, by rw [E.out]; exact HG.out, HB.out⟩
          · have E := Aside0.mk (show shF a b = x by rw [HS.out, sg32 _ (by omega) (by omega)]; exact if_neg cs)
            go_wp2_with (first | (go_at_call 22; ((with_reducible refine (vWhole _ _).mono ?_); rintro e w1 ⟨rfl, hb⟩; have nHB := Aside0.mk (below_step (w := w) (by repeat (first | (with_reducible first | exact HB.out | apply below_alloc | apply pw_below_drewN | apply below_drew1) | (with_reducible refine below_set ?_ ?_) | omega)) hb); clear hb; clear HB; have HB := nHB; clear nHB; skip)) | (go_at_call 19; ((with_reducible refine (vOne 1 _ _).mono ?_); rintro e w2 ⟨g1, rfl, hg, hG, hb⟩; have hgg := Aside0.mk (Nat.le_trans (Below.size (show Below w.heap.size w _ from (by repeat (first | (with_reducible first | exact HB.out | apply below_alloc | apply pw_below_drewN | apply below_drew1) | (with_reducible refine below_set ?_ ?_) | omega)))) hg); have HG := Aside0.mk hG; have nHB := Aside0.mk (below_step (w := w) (by repeat (first | (with_reducible first | exact HB.out | apply below_alloc | apply pw_below_drewN | apply below_drew1) | (with_reducible refine below_set ?_ ?_) | omega)) hb); clear hg hG hb; clear HB; have HB := nHB; clear nHB; skip)))
            go_ret2
            exact ⟨g1, rfl, hgg.out, by rw [E.out]; exact HG.out, HB.out⟩
set_option maxHeartbeats 3200000 in
set_option maxRecDepth 100000 in
theorem rShiftR (nm : ByteArray) (a b : Int) (w : World) (q : (nm.toList == [98, 105, 116, 115, 104, 105, 102, 116]) = true) (ha : fitB a = true) (hb : fitB b = true) (c0 : b < 0) (c1 : -31 ≤ b) : Calls Tryd.prog 26 #[.string nm, .int .i64 a, .int .i64 b] w (GotV w ⟨1, shF a b, 0⟩) := by
  have h1 := fitB_true.1 ha
  have h2 := fitB_true.1 hb
  clear ha hb
  have HB := Aside0.mk (Below.refl w.heap.size w)
  have hA0 := Int.emod_nonneg a (by decide : (4294967296 : Int) ≠ 0)
  have hA1 := Int.emod_lt_of_pos a (by decide : (0 : Int) < 4294967296)
  obtain ⟨A, hA⟩ : ∃ A, a % 4294967296 = A := ⟨_, rfl⟩
  rw [hA] at hA0 hA1
  obtain ⟨R, hR⟩ : ∃ R, A / 2 ^ (-b).toNat = R := ⟨_, rfl⟩
  have hR0 : 0 ≤ R := by rw [← hR]; exact Int.ediv_nonneg hA0 (Int.pow_nonneg (by decide))
  have hR1 : R < 4294967296 := by have := Int.ediv_le_self (2 ^ (-b).toNat) hA0; omega
  have HS := Aside0.mk (show shF a b = wrap32 R by rw [shF_neg c0 c1, hA, hR])
  have HRR := Aside0.mk hR
  have hs : (a < 0 ∧ A = a + 4294967296) ∨ (0 ≤ a ∧ A = a) := by omega
  clear hA hR
  rcases hs with ⟨s1, s2⟩ | ⟨s1, s2⟩
  all_goals
    have HAA := Aside0.mk s2
    clear s2
    go_enter Tryd.func26, Tryd.ntmps26
    go_wp2
    go_loop [1, 2] (fun v1 v2 => ∃ x : Int, v1 = .int .i64 x ∧ v2 = .int .i64 b ∧ Aside0 (x = A)) (fun _ _ => 0)
    case atStart => exact ⟨_, rfl, rfl, ⟨HAA.out.symm⟩⟩
    case round =>
      obtain ⟨x, rfl, rfl, hx⟩ := hrel
      go_wp2
      go_loop [1, 2] (fun v1 v2 => ∃ x y : Int, v1 = .int .i64 x ∧ v2 = .int .i64 y ∧ Aside0 (x / 2 ^ (-y).toNat = R ∧ 0 ≤ x ∧ x < 4294967296 ∧ y ≤ 0 ∧ -31 ≤ y)) (fun _ v2 => (- intOf v2).toNat)
      case atStart => exact ⟨_, _, rfl, rfl, ⟨by rw [hx.out]; exact HRR.out, by rw [hx.out]; exact hA0, by rw [hx.out]; exact hA1, by omega, by omega⟩⟩
      case round =>
        obtain ⟨u, y, rfl, rfl, hu⟩ := hrel
        obtain ⟨u0, u1⟩ := And.intro hu.out.2.1 hu.out.2.2.1
        obtain ⟨y0, y1⟩ := hu.out.2.2.2
        by_cases hlt : y < 0
        · go_wp2
          go_round
          case rel => exact ⟨_, _, rfl, rfl, ⟨(stepR u y hlt).trans hu.out.1, by omega, by omega, by omega, by omega⟩⟩
          case measure => simp [intOf]; omega
        · obtain rfl : y = 0 := by omega
          obtain rfl : u = R := by have := hu.out.1; rw [show (-(0 : Int)).toNat = 0 from rfl, Int.pow_zero, Int.ediv_one] at this; exact this
          clear hlt
          by_cases cs : u ≥ 2147483648
          · have E := Aside0.mk (show shF a b = u - 4294967296 by rw [HS.out, sg32 _ (by omega) (by omega)]; exact if_pos cs)
            go_wp2_with (first | (go_at_call 22; ((with_reducible refine (vWhole _ _).mono ?_); rintro e w1 ⟨rfl, hb⟩; have nHB := Aside0.mk (below_step (w := w) (by repeat (first | (with_reducible first | exact HB.out | apply below_alloc | apply pw_below_drewN | apply below_drew1) | (with_reducible refine below_set ?_ ?_) | omega)) hb); clear hb; clear HB; have HB := nHB; clear nHB; skip)) | (go_at_call 19; ((with_reducible refine (vOne 1 _ _).mono ?_); rintro e w2 ⟨g1, rfl, hg, hG, hb⟩; have hgg := Aside0.mk (Nat.le_trans (Below.size (show Below w.heap.size w _ from (by repeat (first | (with_reducible first | exact HB.out | apply below_alloc | apply pw_below_drewN | apply below_drew1) | (with_reducible refine below_set ?_ ?_) | omega)))) hg); have HG := Aside0.mk hG; have nHB := Aside0.mk (below_step (w := w) (by repeat (first | (with_reducible first | exact HB.out | apply below_alloc | apply pw_below_drewN | apply below_drew1) | (with_reducible refine below_set ?_ ?_) | omega)) hb); clear hg hG hb; clear HB; have HB := nHB; clear nHB; skip)))
            go_ret2
            exact ⟨g1, rfl, hgg.out, by rw [E.out]; exact HG.out, HB.out⟩
          · have E := Aside0.mk (show shF a b = u by rw [HS.out, sg32 _ (by omega) (by omega)]; exact if_neg cs)
            go_wp2_with (first | (go_at_call 22; ((with_reducible refine (vWhole _ _).mono ?_); rintro e w1 ⟨rfl, hb⟩; have nHB := Aside0.mk (below_step (w := w) (by repeat (first | (with_reducible first | exact HB.out | apply below_alloc | apply pw_below_drewN | apply below_drew1) | (with_reducible refine below_set ?_ ?_) | omega)) hb); clear hb; clear HB; have HB := nHB; clear nHB; skip)) | (go_at_call 19; ((with_reducible refine (vOne 1 _ _).mono ?_); rintro e w2 ⟨g1, rfl, hg, hG, hb⟩; have hgg := Aside0.mk (Nat.le_trans (Below.size (show Below w.heap.size w _ from (by repeat (first | (with_reducible first | exact HB.out | apply below_alloc | apply pw_below_drewN | apply below_drew1) | (with_reducible refine below_set ?_ ?_) | omega)))) hg); have HG := Aside0.mk hG; have nHB := Aside0.mk (below_step (w := w) (by repeat (first | (with_reducible first | exact HB.out | apply below_alloc | apply pw_below_drewN | apply below_drew1) | (with_reducible refine below_set ?_ ?_) | omega)) hb); clear hg hG hb; clear HB; have HB := nHB; clear nHB; skip)))
            go_ret2
            exact ⟨g1, rfl, hgg.out, by rw [E.out]; exact HG.out, HB.out⟩
set_option maxHeartbeats 1600000 in
set_option maxRecDepth 100000 in
theorem rZero (nm : ByteArray) (a b : Int) (w : World) (q0 : (nm.toList == [98, 105, 116, 115, 104, 105, 102, 116]) = false) (ha : fitB a = true) (hb : fitB b = true) (hz : b = 0) : Calls Tryd.prog 26 #[.string nm, .int .i64 a, .int .i64 b] w (Fails w 18) := by
  have h1 := fitB_true.1 ha
  have h2 := fitB_true.1 hb
  have ht := tdiv_range ha hb
  clear ha hb
  have HB := Aside0.mk (Below.refl w.heap.size w)
  subst hz
  go_enter Tryd.func26, Tryd.ntmps26
  go_wp2
  go_ret2
  exact ⟨rfl, Below.refl _ _⟩
set_option maxHeartbeats 1600000 in
set_option maxRecDepth 100000 in
theorem rMod (nm : ByteArray) (a b : Int) (w : World) (q0 : (nm.toList == [98, 105, 116, 115, 104, 105, 102, 116]) = false) (q1 : (nm.toList == [109, 111, 100]) = true) (ha : fitB a = true) (hb : fitB b = true) (hz : b ≠ 0) : Calls Tryd.prog 26 #[.string nm, .int .i64 a, .int .i64 b] w (GotV w ⟨1, a.tmod b, 0⟩) := by
  have h1 := fitB_true.1 ha
  have h2 := fitB_true.1 hb
  have ht := tdiv_range ha hb
  clear ha hb
  have HB := Aside0.mk (Below.refl w.heap.size w)
  have e0 : (b == 0) = false := beq_eq_false_iff_ne.mpr hz
  have hm : a.tmod b = a - a.tdiv b * b := by have := Int.mul_tdiv_add_tmod a b; rw [Int.mul_comm] at this; omega
  have hp : -2147483648 ≤ a.tdiv b * b ∧ a.tdiv b * b ≤ 2147483648 := by
    have h3 : (a.tmod b).natAbs ≤ a.natAbs := by rw [Int.natAbs_tmod]; exact Nat.mod_le _ _
    have h4 : 0 ≤ a → 0 ≤ a.tmod b := fun h => Int.tmod_nonneg b h
    have h5 : a ≤ 0 → a.tmod b ≤ 0 := fun h => by have := Int.tmod_nonneg b (a := -a) (by omega); rw [Int.neg_tmod] at this; omega
    omega
  rw [hm]
  clear hm
  have hz0 : ¬ b = 0 := hz
  clear hz
  obtain ⟨q, hq⟩ : ∃ q, a.tdiv b = q := ⟨_, rfl⟩
  rw [hq] at hp ht ⊢
  obtain ⟨p0, p1⟩ := hp
  obtain ⟨t0, t1⟩ := ht
  go_enter Tryd.func26, Tryd.ntmps26
  go_wp2_with (first | (go_at_call 22; ((with_reducible refine (vWhole _ _).mono ?_); rintro e w1 ⟨rfl, hb⟩; have nHB := Aside0.mk (below_step (w := w) (by repeat (first | (with_reducible first | exact HB.out | apply below_alloc | apply pw_below_drewN | apply below_drew1) | (with_reducible refine below_set ?_ ?_) | omega)) hb); clear hb; clear HB; have HB := nHB; clear nHB; skip)) | (go_at_call 19; ((with_reducible refine (vOne 1 _ _).mono ?_); rintro e w2 ⟨g1, rfl, hg, hG, hb⟩; have hgg := Aside0.mk (Nat.le_trans (Below.size (show Below w.heap.size w _ from (by repeat (first | (with_reducible first | exact HB.out | apply below_alloc | apply pw_below_drewN | apply below_drew1) | (with_reducible refine below_set ?_ ?_) | omega)))) hg); have HG := Aside0.mk hG; have nHB := Aside0.mk (below_step (w := w) (by repeat (first | (with_reducible first | exact HB.out | apply below_alloc | apply pw_below_drewN | apply below_drew1) | (with_reducible refine below_set ?_ ?_) | omega)) hb); clear hg hG hb; clear HB; have HB := nHB; clear nHB; skip)))
  go_ret2
  exact ⟨g1, rfl, hgg.out, HG.out, HB.out⟩
set_option maxHeartbeats 1600000 in
set_option maxRecDepth 100000 in
theorem rDivOk (nm : ByteArray) (a b : Int) (w : World) (q0 : (nm.toList == [98, 105, 116, 115, 104, 105, 102, 116]) = false) (q1 : (nm.toList == [109, 111, 100]) = false) (ha : fitB a = true) (hb : fitB b = true) (hz : b ≠ 0) (hs0 : fitB (a.tdiv b) = true) : Calls Tryd.prog 26 #[.string nm, .int .i64 a, .int .i64 b] w (GotV w ⟨1, a.tdiv b, 0⟩) := by
  have h1 := fitB_true.1 ha
  have h2 := fitB_true.1 hb
  have ht := tdiv_range ha hb
  clear ha hb
  have HB := Aside0.mk (Below.refl w.heap.size w)
  have e0 : (b == 0) = false := beq_eq_false_iff_ne.mpr hz
  have hz0 : ¬ b = 0 := hz
  clear hz
  obtain ⟨q, hq⟩ : ∃ q, a.tdiv b = q := ⟨_, rfl⟩
  rw [hq] at ht hs0 ⊢
  have hs := hs0
  clear hs0
  obtain ⟨t0, t1⟩ := ht
  go_enter Tryd.func26, Tryd.ntmps26
  go_wp2_with (first | (go_at_call 28; ((with_reducible refine (mezzotintref01_Small.calls q _ _ (small_r q)).mono ?_); rintro e w' ⟨rfl, ⟨nd, rfl⟩⟩; rw [hs])) | (first | (go_at_call 22; ((with_reducible refine (vWhole _ _).mono ?_); rintro e w1 ⟨rfl, hb⟩; have nHB := Aside0.mk (below_step (w := w) (by repeat (first | (with_reducible first | exact HB.out | apply below_alloc | apply pw_below_drewN | apply below_drew1) | (with_reducible refine below_set ?_ ?_) | omega)) hb); clear hb; clear HB; have HB := nHB; clear nHB; skip)) | (go_at_call 19; ((with_reducible refine (vOne 1 _ _).mono ?_); rintro e w2 ⟨g1, rfl, hg, hG, hb⟩; have hgg := Aside0.mk (Nat.le_trans (Below.size (show Below w.heap.size w _ from (by repeat (first | (with_reducible first | exact HB.out | apply below_alloc | apply pw_below_drewN | apply below_drew1) | (with_reducible refine below_set ?_ ?_) | omega)))) hg); have HG := Aside0.mk hG; have nHB := Aside0.mk (below_step (w := w) (by repeat (first | (with_reducible first | exact HB.out | apply below_alloc | apply pw_below_drewN | apply below_drew1) | (with_reducible refine below_set ?_ ?_) | omega)) hb); clear hg hG hb; clear HB; have HB := nHB; clear nHB; skip))))
  go_ret2
  exact ⟨g1, rfl, hgg.out, HG.out, HB.out⟩
set_option maxHeartbeats 1600000 in
set_option maxRecDepth 100000 in
theorem rDivNo (nm : ByteArray) (a b : Int) (w : World) (q0 : (nm.toList == [98, 105, 116, 115, 104, 105, 102, 116]) = false) (q1 : (nm.toList == [109, 111, 100]) = false) (ha : fitB a = true) (hb : fitB b = true) (hz : b ≠ 0) (hs0 : fitB (a.tdiv b) = false) : Calls Tryd.prog 26 #[.string nm, .int .i64 a, .int .i64 b] w (Fails w 18) := by
  have h1 := fitB_true.1 ha
  have h2 := fitB_true.1 hb
  have ht := tdiv_range ha hb
  clear ha hb
  have HB := Aside0.mk (Below.refl w.heap.size w)
  have e0 : (b == 0) = false := beq_eq_false_iff_ne.mpr hz
  have hz0 : ¬ b = 0 := hz
  clear hz
  obtain ⟨q, hq⟩ : ∃ q, a.tdiv b = q := ⟨_, rfl⟩
  rw [hq] at ht hs0 
  have hs := hs0
  clear hs0
  obtain ⟨t0, t1⟩ := ht
  go_enter Tryd.func26, Tryd.ntmps26
  go_wp2_with (go_at_call 28; ((with_reducible refine (mezzotintref01_Small.calls q _ _ (small_r q)).mono ?_); rintro e w' ⟨rfl, ⟨nd, rfl⟩⟩; rw [hs]))
  go_ret2
  exact ⟨rfl, (by repeat (first | (with_reducible first | exact HB.out | apply below_alloc | apply pw_below_drewN | apply below_drew1) | (with_reducible refine below_set ?_ ?_) | omega))⟩
end Go.Proofs.YtmbnlklinmmkdaaDoor.One
