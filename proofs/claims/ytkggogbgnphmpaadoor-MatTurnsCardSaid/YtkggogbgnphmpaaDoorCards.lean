/-
  DERIVED. GIVEN WITH THE SEED: THE CARDS: each row of YtkggogbgnphmpaaDoorRows.lean that lists a variable, with what it lists TIED to the program's text (the seventh form; the later family's looks); each row that meets fmt, with fmt's text TOLD by the authors' own Lean function (tested against real Go, not proved from fmt's source: count such statements apart). THE CARD IS WHAT COUNTS. Prove the row's statement (the work); the ties are given (YtkggogbgnphmpaaDoorTie.lean); close each card by the builder's one call (the guide's Derived/Test/ToyasCard.lean, 'card_holds'). Laid BY PROGRAM, IN A SANDBOX (cutbox-door.mjs). By AI agents, Wed Nov 11 2026. No macro, syntax, notation, axiom, sorry.
-/
import Derived.Test.YtkggogbgnphmpaaDoorRows
import GoSem.ClaimSeven
namespace Go.Proofs.YtkggogbgnphmpaaDoor
namespace Rows

/-- THE TIED CARD OF 'mezzotintlaw03.MatTurns'. -/
def matTurnsCard : Claim7 := { stood := { row := matTurnsRow, standIns := [], harness := (true, "c7a6b815533c00338963010e8d13d7de97766f36d6f5e68a96b52e41e23539ea"), looks := false }, kinds := [], alts := [], laidByText := true, laidKinds := [.data], laidTests := true, laidLooks := .later }
def MatTurnsCardSaid : Prop := Claim7.holds Tryd.pinned (.plain (OpenSpec.ofChange matTurnsSpec)) matTurnsCard

/-- THE SECOND FORM's CARD OF 'mezzotintlaw03.MatTurns'. -/
def matTurnsUptoCard : Claim7 := { stood := { row := matTurnsUptoRow, standIns := [], harness := (true, "c7a6b815533c00338963010e8d13d7de97766f36d6f5e68a96b52e41e23539ea"), looks := false }, kinds := [], alts := [], laidByText := true, laidKinds := [.data], laidTests := true, laidLooks := .later }
def MatTurnsUptoCardSaid : Prop := Claim7.holds Tryd.pinned (.plain (OpenSpec.upto matTurnsSpec)) matTurnsUptoCard
end Rows
end Go.Proofs.YtkggogbgnphmpaaDoor
