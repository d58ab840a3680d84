import Derived.Test.YtmbnlklinmmkdaaDoorALeaf
import Derived.Test.YtmbnlklinmmkdaaDoorTurnsSem
import Derived.Test.YtmbnlklinmmkdaaDoorARef
namespace Go.Proofs.YtmbnlklinmmkdaaDoor.Bitw
open Go.RowKit Go.Proofs.YtmbnlklinmmkdaaDoorW.PrintWords Go.Proofs.YtmbnlklinmmkdaaDoorW.PrintLast Go.Proofs.YtmbnlklinmmkdaaDoorW.PrintMore
open Go.Proofs.YtmbnlklinmmkdaaDoor.Sem Go.Proofs.YtmbnlklinmmkdaaDoor.Ref Go.Proofs.YtmbnlklinmmkdaaDoor.Turns Go.Proofs.YtmbnlklinmmkdaaDoor.Pure Go.Proofs.YtmbnlklinmmkdaaDoor.PArithDoes
theorem keepR_fit {a : Int} (h : fitB a = true) : keepR a = (a, 0) := by unfold keepR; rw [if_pos h]
theorem rCeiling_eq (a : Int) : mezzotintref01_Ceiling.f a = some (ceilR a) := by
  unfold mezzotintref01_Ceiling.f ceilR
  rw [rFits_eq, Option.bind_some]
  cases h : fitB a
  · rfl
  · have hb := fitB_true.1 h
    rw [if_pos rfl, if_pos rfl, below_of (by omega) (by omega)]
    simp only [Option.bind_some]
    by_cases c : a / 65536 * 65536 = a
    · rw [if_pos c, show a + 65535 - (a + 65535) % 65536 = a by omega, keepR_fit h]
    · rw [if_neg c, w64 (by omega) (by omega), rKeep_eq, show a + 65535 - (a + 65535) % 65536 = a / 65536 * 65536 + 65536 by omega]; rfl
theorem rRound_eq (a : Int) : mezzotintref01_Round.f a = some (roundR a) := by
  unfold mezzotintref01_Round.f roundR
  rw [rFits_eq, Option.bind_some]
  cases h : fitB a
  · rfl
  · have hb := fitB_true.1 h
    rw [if_pos rfl, if_pos rfl, below_of (by omega) (by omega)]
    simp only [Option.bind_some]
    rw [w64 (x := a - a / 65536 * 65536) (by omega) (by omega)]
    by_cases c : a - a / 65536 * 65536 ≥ 32768
    · rw [if_pos c, w64 (by omega) (by omega), rKeep_eq, show a + 32768 - (a + 32768) % 65536 = a / 65536 * 65536 + 65536 by omega]; rfl
    · rw [if_neg c, show a + 32768 - (a + 32768) % 65536 = a / 65536 * 65536 by omega, keepR_fit (fitB_true.2 (by omega))]
theorem rFloor_eq (a : Int) : mezzotintref01_Floor.f a = some (floorF a) := by
  unfold mezzotintref01_Floor.f floorF
  rw [rFits_eq, Option.bind_some]
  cases h : fitB a
  · rfl
  · have hb := fitB_true.1 h
    rw [if_pos rfl, if_pos rfl, below_of (by omega) (by omega), Option.bind_some]
    congr 1; omega
theorem rTruncate_eq (a : Int) : mezzotintref01_Truncate.f a = some (truncF a) := by
  unfold mezzotintref01_Truncate.f truncF
  rw [rFits_eq, Option.bind_some]
  cases h : fitB a
  · rfl
  · have hb := fitB_true.1 h
    rw [if_pos rfl, if_pos rfl]
    by_cases c : a < 0
    · have e : a.tdiv 65536 = -((-a) / 65536) := by rw [← Int.tdiv_eq_ediv_of_nonneg (by omega : 0 ≤ -a), Int.neg_tdiv]; omega
      rw [if_pos c, e, w64 (x := -(-a / 65536)) (by omega) (by omega), w64 (by omega) (by omega)]
      congr 1; omega
    · rw [if_neg c, Int.tdiv_eq_ediv_of_nonneg (by omega), w64 (x := a / 65536) (by omega) (by omega), w64 (by omega) (by omega)]
      congr 1; omega
end Go.Proofs.YtmbnlklinmmkdaaDoor.Bitw
