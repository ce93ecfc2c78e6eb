/-
  DERIVED. GIVEN WITH THE SEED: THE CARDS: each row of YtgjneigkkgaaiaaGreatDoorRows.lean that lists a variable, with what it lists TIED to the program's text (the seventh form; the later family's looks); each row that meets fmt, with fmt's text TOLD by the authors' own Lean function (tested against real Go, not proved from fmt's source: count such statements apart). THE CARD IS WHAT COUNTS. Prove the row's statement (the work); the ties are given (YtgjneigkkgaaiaaGreatDoorTie.lean); close each card by the builder's one call (the guide's Derived/Test/ToyasCard.lean, 'card_holds'). Laid BY PROGRAM, IN A SANDBOX (cutbox-door.mjs). By AI agents, Wed Nov 11 2026. No macro, syntax, notation, axiom, sorry.
-/
import Derived.Test.YtgjneigkkgaaiaaGreatDoorRows
import GoSem.ClaimSeven
namespace Go.Proofs.YtgjneigkkgaaiaaGreatDoor
namespace Rows

/-- THE TIED CARD OF 'laws.FnExactVerifySealed'. -/
def fnExactVerifySealedCard : Claim7 := { stood := { row := fnExactVerifySealedRow, standIns := [], harness := (true, "142fd52c7cb6abd96674f09637bfa064c2505e96389e39d53fd43dfe457d93ce"), looks := false }, kinds := [], alts := [], laidByText := true, laidKinds := [.data, .data, .data], laidTests := true, laidLooks := .later }
def FnExactVerifySealedCardSaid : Prop := Claim7.holds Tryz.pinned (.plain (OpenSpec.ofChange fnExactVerifySealedSpec)) fnExactVerifySealedCard

/-- THE SECOND FORM's CARD OF 'laws.FnExactVerifySealed'. -/
def fnExactVerifySealedUptoCard : Claim7 := { stood := { row := fnExactVerifySealedUptoRow, standIns := [], harness := (true, "142fd52c7cb6abd96674f09637bfa064c2505e96389e39d53fd43dfe457d93ce"), looks := false }, kinds := [], alts := [], laidByText := true, laidKinds := [.data, .data, .data], laidTests := true, laidLooks := .later }
def FnExactVerifySealedUptoCardSaid : Prop := Claim7.holds Tryz.pinned (.plain (OpenSpec.upto fnExactVerifySealedSpec)) fnExactVerifySealedUptoCard
end Rows
end Go.Proofs.YtgjneigkkgaaiaaGreatDoor
