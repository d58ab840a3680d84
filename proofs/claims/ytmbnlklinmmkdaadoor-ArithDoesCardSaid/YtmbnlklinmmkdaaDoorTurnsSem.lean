import Derived.Test.YtmbnlklinmmkdaaDoorQ8
namespace Go.Proofs.YtmbnlklinmmkdaaDoor.Turns
open Go.RowKit Go.Proofs.YtmbnlklinmmkdaaDoorW.PrintWords Go.Proofs.YtmbnlklinmmkdaaDoorW.PrintLast Go.Proofs.YtmbnlklinmmkdaaDoorW.PrintMore Go.Proofs.YtmbnlklinmmkdaaDoor.PArithDoes
def svL : List Int := [
  0, 1144, 2287, 3430, 4572, 5712, 6850, 7987, 9121, 10252, 11380, 12505, 13626, 14742, 15855, 16962, 18064, 19161, 20252, 21336, 22415, 23486, 24550, 25607, 26656, 27697, 28729, 29753, 30767, 31772, 32768,
  33754, 34729, 35693, 36647, 37590, 38521, 39441, 40348, 41243, 42126, 42995, 43852, 44695, 45525, 46341, 47143, 47930, 48703, 49461, 50203, 50931, 51643, 52339, 53020, 53684, 54332, 54963, 55578, 56175, 56756,
  57319, 57865, 58393, 58903, 59396, 59870, 60326, 60764, 61183, 61584, 61966, 62328, 62672, 62997, 63303, 63589, 63856, 64104, 64332, 64540, 64729, 64898, 65048, 65177, 65287, 65376, 65446, 65496, 65526, 65536]
def sv (i : Nat) : Int := svL.getD i 0
theorem sv_range : ∀ i : Nat, 0 ≤ sv i ∧ sv i ≤ 65536 := by
  intro i
  by_cases h : i < 91
  · have : ∀ j : Fin 91, 0 ≤ sv j.val ∧ sv j.val ≤ 65536 := by decide +kernel
    exact this ⟨i, h⟩
  · unfold sv; rw [List.getD_eq_getElem?_getD, List.getElem?_eq_none (by simp [svL]; omega)]; decide
def s1 (r : Int) : Int := if r > 90 then sv (180 - r).toNat else sv r.toNat
def S (r : Int) : Int := if r > 180 then - s1 (r - 180) else s1 r
theorem sine_at : ∀ j : Fin 91, mezzotintref01_sine.l0 600 (j.val : Int) tab 0 0 = some (sv j.val) := by decide +kernel
theorem sine_of {r : Int} (h0 : 0 ≤ r) (h1 : r ≤ 90) : mezzotintref01_sine.f 600 r = some (sv r.toNat) := by
  have := sine_at ⟨r.toNat, by omega⟩
  rw [show ((r.toNat : Nat) : Int) = r by omega] at this
  exact this
theorem s1_range (r : Int) : 0 ≤ s1 r ∧ s1 r ≤ 65536 := by unfold s1; split <;> exact sv_range _
theorem S_range (r : Int) : -65536 ≤ S r ∧ S r ≤ 65536 := by
  unfold S; split
  · have := s1_range (r - 180); omega
  · have := s1_range r; omega
theorem sine_of2 {r : Int} (h0 : 0 ≤ r) (h1 : r ≤ 90) : mezzotintref01_sine.f 602 r = some (sv r.toNat) :=
  mezzotintref01_sine.mono _ _ _ (mezzotintref01_sine.mono _ _ _ (sine_of h0 h1))
theorem tmod_small {a : Int} (h0 : 0 ≤ a) : a.tmod 360 = a % 360 := Int.tmod_eq_emod_of_nonneg h0
theorem tmod_neg {a : Int} (h0 : a ≤ 0) : a.tmod 360 = -((-a) % 360) := by
  rw [← Int.tmod_eq_emod_of_nonneg (by omega : 0 ≤ -a), Int.neg_tmod]; omega
theorem wrap_in {x : Int} (h0 : -1000000 ≤ x) (h1 : x ≤ 1000000) : wrap64 x = x := by unfold wrap64; omega
theorem j0_low {k : Nat} {r : Int} (hk : ∀ q : Int, 0 ≤ q → q ≤ 90 → mezzotintref01_sine.f k q = some (sv q.toNat)) (h0 : 0 ≤ r) (h1 : r ≤ 180) : mezzotintref01_Sine.j0 (k + 1) r = some (s1 r) := by
  simp only [mezzotintref01_Sine.j0]
  rw [if_neg (by omega)]
  unfold s1
  by_cases h : r > 90
  · rw [if_pos h, if_pos h, wrap_in (by omega) (by omega), hk _ (by omega) (by omega)]; rfl
  · rw [if_neg h, if_neg h, hk _ h0 (by omega)]; rfl
theorem f_red {k : Nat} {a : Int} (h : mezzotintref01_Sine.j0 k (a % 360) = some (S (a % 360))) : mezzotintref01_Sine.f (k + 1) a = some (S (a % 360)) := by
  simp only [mezzotintref01_Sine.f]
  by_cases ha : 0 ≤ a
  · rw [tmod_small ha, if_neg (by omega)]; exact h
  · rw [tmod_neg (by omega)]
    by_cases hz : (-a) % 360 = 0
    · rw [if_neg (by omega), show -(-a % 360) = a % 360 by omega]; exact h
    · rw [if_pos (by omega), wrap_in (by omega) (by omega), show -(-a % 360) + 360 = a % 360 by omega]; exact h
theorem Sine_low {a : Int} (h : a % 360 ≤ 180) : mezzotintref01_Sine.f 602 a = some (S (a % 360)) := by
  refine f_red ?_
  rw [show S (a % 360) = s1 (a % 360) by unfold S; rw [if_neg (by omega)]]
  exact j0_low (fun q h0 h1 => sine_of h0 h1) (by omega) h
theorem Sine_of (a : Int) : mezzotintref01_Sine.f 604 a = some (S (a % 360)) := by
  refine f_red ?_
  by_cases h : a % 360 ≤ 180
  · rw [show S (a % 360) = s1 (a % 360) by unfold S; rw [if_neg (by omega)]]
    exact j0_low (fun q h0 h1 => sine_of2 h0 h1) (by omega) h
  · simp only [mezzotintref01_Sine.j0]
    have hl := Sine_low (a := a % 360 - 180) (by omega)
    rw [if_pos (by omega), wrap_in (by omega) (by omega), hl]
    simp only [Option.bind_some]
    have hm : (a % 360 - 180) % 360 = a % 360 - 180 := by omega
    rw [hm]
    have e : S (a % 360 - 180) = s1 (a % 360 - 180) := by unfold S; rw [if_neg (by omega)]
    have e2 : S (a % 360) = - s1 (a % 360 - 180) := by unfold S; rw [if_pos (by omega)]
    have hr := s1_range (a % 360 - 180)
    rw [e, e2, wrap_in (by omega) (by omega)]
theorem rSine (a : Int) (w : World) : Calls Tryd.prog 77 #[.int .i64 a] w fun e w' => e = .returned (.int .i64 (S (a % 360))) ∧ Drawn0 w w' :=
  mezzotintref01_Sine.calls 604 a _ w (Sine_of a)
theorem below_of {a : Int} (h0 : -4000000000 ≤ a) (h1 : a ≤ 4000000000) : mezzotintref01_below.f a = some (a / 65536 * 65536) := by
  unfold mezzotintref01_below.f
  have w64 : ∀ x : Int, -9000000000 ≤ x → x ≤ 9000000000 → wrap64 x = x := fun x _ _ => by unfold wrap64; omega
  by_cases ha : 0 ≤ a
  · rw [Int.tmod_eq_emod_of_nonneg ha, if_neg (by omega), w64 _ (by omega) (by omega)]; congr 1; omega
  · have e : a.tmod 65536 = -((-a) % 65536) := by
      rw [← Int.tmod_eq_emod_of_nonneg (by omega : 0 ≤ -a), Int.neg_tmod]; omega
    rw [e]
    by_cases hz : (-a) % 65536 = 0
    · rw [if_neg (by omega), w64 _ (by omega) (by omega)]; congr 1; omega
    · rw [if_pos (by omega), w64 (-(-a % 65536) + 65536) (by omega) (by omega), w64 _ (by omega) (by omega)]; congr 1; omega
theorem rBelow {a : Int} (h0 : -4000000000 ≤ a) (h1 : a ≤ 4000000000) (w : World) : Calls Tryd.prog 76 #[.int .i64 a] w fun e w' => e = .returned (.int .i64 (a / 65536 * 65536)) ∧ Drawn0 w w' :=
  mezzotintref01_below.calls a _ w (below_of h0 h1)
def deg (a : Int) : Int := (a + 32768) / 65536
end Go.Proofs.YtmbnlklinmmkdaaDoor.Turns
