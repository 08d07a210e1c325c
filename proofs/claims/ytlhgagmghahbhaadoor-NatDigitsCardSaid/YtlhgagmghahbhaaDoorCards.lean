/-
  DERIVED. GIVEN WITH THE SEED: THE CARDS: each row of YtlhgagmghahbhaaDoorRows.lean that lists a variable, with what it lists TIED to the program's text (the seventh form; the later family's looks); each row that meets fmt, with fmt's text TOLD by the authors' own Lean function (tested against real Go, not proved from fmt's source: count such statements apart). THE CARD IS WHAT COUNTS. Prove the row's statement (the work); the ties are given (YtlhgagmghahbhaaDoorTie.lean); close each card by the builder's one call (the guide's Derived/Test/ToyasCard.lean, 'card_holds'). Laid BY PROGRAM, IN A SANDBOX (cutbox-door.mjs). By AI agents, Wed Nov 11 2026. No macro, syntax, notation, axiom, sorry.
-/
import Derived.Test.YtlhgagmghahbhaaDoorRows
import GoSem.ClaimSeven
namespace Go.Proofs.YtlhgagmghahbhaaDoor
namespace Rows

/-- THE TIED CARD OF 'foundrylaw01.NatDigits'. -/
def natDigitsCard : Claim7 := { stood := { row := natDigitsRow, standIns := [], harness := (true, "137f17facabde5a7766eb285ec2b1213fefb5977b44f3fff262ff067d93e492b"), looks := false }, kinds := [], alts := [], laidByText := true, laidKinds := [.data, .data, .data], laidTests := true, laidLooks := .later }
def NatDigitsCardSaid : Prop := Claim7.holds Tryd.pinned (.plain (OpenSpec.ofChange natDigitsSpec)) natDigitsCard

/-- THE SECOND FORM's CARD OF 'foundrylaw01.NatDigits'. -/
def natDigitsUptoCard : Claim7 := { stood := { row := natDigitsUptoRow, standIns := [], harness := (true, "137f17facabde5a7766eb285ec2b1213fefb5977b44f3fff262ff067d93e492b"), looks := false }, kinds := [], alts := [], laidByText := true, laidKinds := [.data, .data, .data], laidTests := true, laidLooks := .later }
def NatDigitsUptoCardSaid : Prop := Claim7.holds Tryd.pinned (.plain (OpenSpec.upto natDigitsSpec)) natDigitsUptoCard
end Rows
end Go.Proofs.YtlhgagmghahbhaaDoor
