/-
  DERIVED. GIVEN WITH THE SEED: THE CARDS: each row of YtbegjaonkgdobaaDoorRows.lean that lists a variable, with what it lists TIED to the program's text (the seventh form; the later family's looks); each row that meets fmt, with fmt's text TOLD by the authors' own Lean function (tested against real Go, not proved from fmt's source: count such statements apart). THE CARD IS WHAT COUNTS. Prove the row's statement (the work); the ties are given (YtbegjaonkgdobaaDoorTie.lean); close each card by the builder's one call (the guide's Derived/Test/ToyasCard.lean, 'card_holds'). Laid BY PROGRAM, IN A SANDBOX (cutbox-door.mjs). By AI agents, Wed Nov 11 2026. No macro, syntax, notation, axiom, sorry.
-/
import Derived.Test.YtbegjaonkgdobaaDoorRows
import GoSem.ClaimSeven
namespace Go.Proofs.YtbegjaonkgdobaaDoor
namespace Rows

/-- THE TIED CARD OF 'escutcheonlaw14.EcdsaDecodes'. -/
def ecdsaDecodesCard : Claim7 := { stood := { row := ecdsaDecodesRow, standIns := [], harness := (true, "6c138bdaded77c6749971627ceea81b1afc696c5d209697cd1dab9cef9af0dc2"), looks := true }, kinds := [], alts := [], laidByText := true, laidKinds := [.handle, .data, .data, .data, .data, .data, .data], laidTests := true, laidLooks := .later }
def EcdsaDecodesCardSaid : Prop := Claim7.holds Tryd.pinned (.plain (OpenSpec.ofChange ecdsaDecodesSpec)) ecdsaDecodesCard

/-- THE TIED CARD OF 'escutcheonlaw18.CrlBodies'. -/
def crlBodiesCard : Claim7 := { stood := { row := crlBodiesRow, standIns := [], harness := (true, "6c138bdaded77c6749971627ceea81b1afc696c5d209697cd1dab9cef9af0dc2"), looks := true }, kinds := [], alts := [], laidByText := true, laidKinds := [.data], laidTests := true, laidLooks := .later }
def CrlBodiesCardSaid : Prop := Claim7.holds Tryd.pinned (.plain (OpenSpec.ofChange crlBodiesSpec)) crlBodiesCard

/-- THE TIED CARD OF 'escutcheonlaw18.CrlHas'. -/
def crlHasCard : Claim7 := { stood := { row := crlHasRow, standIns := [], harness := (true, "6c138bdaded77c6749971627ceea81b1afc696c5d209697cd1dab9cef9af0dc2"), looks := true }, kinds := [], alts := [], laidByText := true, laidKinds := [.data], laidTests := true, laidLooks := .later }
def CrlHasCardSaid : Prop := Claim7.holds Tryd.pinned (.plain (OpenSpec.ofChange crlHasSpec)) crlHasCard

/-- THE SECOND FORM's CARD OF 'escutcheonlaw14.EcdsaDecodes'. -/
def ecdsaDecodesUptoCard : Claim7 := { stood := { row := ecdsaDecodesUptoRow, standIns := [], harness := (true, "6c138bdaded77c6749971627ceea81b1afc696c5d209697cd1dab9cef9af0dc2"), looks := true }, kinds := [], alts := [], laidByText := true, laidKinds := [.handle, .data, .data, .data, .data, .data, .data], laidTests := true, laidLooks := .later }
def EcdsaDecodesUptoCardSaid : Prop := Claim7.holds Tryd.pinned (.plain (OpenSpec.upto ecdsaDecodesSpec)) ecdsaDecodesUptoCard

/-- THE SECOND FORM's CARD OF 'escutcheonlaw18.CrlBodies'. -/
def crlBodiesUptoCard : Claim7 := { stood := { row := crlBodiesUptoRow, standIns := [], harness := (true, "6c138bdaded77c6749971627ceea81b1afc696c5d209697cd1dab9cef9af0dc2"), looks := true }, kinds := [], alts := [], laidByText := true, laidKinds := [.data], laidTests := true, laidLooks := .later }
def CrlBodiesUptoCardSaid : Prop := Claim7.holds Tryd.pinned (.plain (OpenSpec.upto crlBodiesSpec)) crlBodiesUptoCard

/-- THE SECOND FORM's CARD OF 'escutcheonlaw18.CrlHas'. -/
def crlHasUptoCard : Claim7 := { stood := { row := crlHasUptoRow, standIns := [], harness := (true, "6c138bdaded77c6749971627ceea81b1afc696c5d209697cd1dab9cef9af0dc2"), looks := true }, kinds := [], alts := [], laidByText := true, laidKinds := [.data], laidTests := true, laidLooks := .later }
def CrlHasUptoCardSaid : Prop := Claim7.holds Tryd.pinned (.plain (OpenSpec.upto crlHasSpec)) crlHasUptoCard
end Rows
end Go.Proofs.YtbegjaonkgdobaaDoor
