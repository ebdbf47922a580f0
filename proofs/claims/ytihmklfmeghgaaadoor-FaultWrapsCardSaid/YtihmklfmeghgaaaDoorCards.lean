/-
  DERIVED. GIVEN WITH THE SEED: THE CARDS: each row of YtihmklfmeghgaaaDoorRows.lean that lists a variable, with what it lists TIED to the program's text (the seventh form; the later family's looks); each row that meets fmt, with fmt's text TOLD by the authors' own Lean function (tested against real Go, not proved from fmt's source: count such statements apart). THE CARD IS WHAT COUNTS. Prove the row's statement (the work); the ties are given (YtihmklfmeghgaaaDoorTie.lean); close each card by the builder's one call (the guide's Derived/Test/ToyasCard.lean, 'card_holds'). Laid BY PROGRAM, IN A SANDBOX (cutbox-door.mjs). By AI agents, Wed Nov 11 2026. No macro, syntax, notation, axiom, sorry.
-/
import Derived.Test.YtihmklfmeghgaaaDoorRows
import GoSem.ClaimSeven
namespace Go.Proofs.YtihmklfmeghgaaaDoor
namespace Rows

/-- THE TIED CARD OF 'handofflaw09.FaultMust'. -/
def faultMustCard : Claim7 := { stood := { row := faultMustRow, standIns := [], harness := (true, "bbe3cd04dc05a30ab57bb51c087a42684f8a77b7c847b8aca3f1c64cadf056a7"), looks := true }, kinds := [], alts := [], laidByText := true, laidKinds := [.data, .data, .data, .handle, .sentinel, .sentinel, .sentinel], laidTests := true, laidLooks := .later }
def FaultMustCardSaid : Prop := Claim7.holds Tryd.pinned (.plain (OpenSpec.ofChange faultMustSpec)) faultMustCard

/-- THE TIED CARD OF 'handofflaw09.FaultTells'. -/
def faultTellsCard : Claim7 := { stood := { row := faultTellsRow, standIns := [], harness := (true, "bbe3cd04dc05a30ab57bb51c087a42684f8a77b7c847b8aca3f1c64cadf056a7"), looks := true }, kinds := [], alts := [], laidByText := true, laidKinds := [.data, .data, .data, .handle, .sentinel, .sentinel, .sentinel], laidTests := true, laidLooks := .later }
def FaultTellsCardSaid : Prop := Claim7.holds Tryd.pinned (.plain (OpenSpec.ofChange faultTellsSpec)) faultTellsCard

/-- THE TIED CARD OF 'handofflaw09.FaultWraps'. -/
def faultWrapsCard : Claim7 := { stood := { row := faultWrapsRow, standIns := [], harness := (true, "bbe3cd04dc05a30ab57bb51c087a42684f8a77b7c847b8aca3f1c64cadf056a7"), looks := true }, kinds := [], alts := [], laidByText := true, laidKinds := [.data, .data, .data, .handle, .sentinel, .sentinel, .sentinel], laidTests := true, laidLooks := .later }
def FaultWrapsCardSaid : Prop := Claim7.holds Tryd.pinned (.plain (OpenSpec.ofChange faultWrapsSpec)) faultWrapsCard

/-- THE SECOND FORM's CARD OF 'handofflaw09.FaultMust'. -/
def faultMustUptoCard : Claim7 := { stood := { row := faultMustUptoRow, standIns := [], harness := (true, "bbe3cd04dc05a30ab57bb51c087a42684f8a77b7c847b8aca3f1c64cadf056a7"), looks := true }, kinds := [], alts := [], laidByText := true, laidKinds := [.data, .data, .data, .handle, .sentinel, .sentinel, .sentinel], laidTests := true, laidLooks := .later }
def FaultMustUptoCardSaid : Prop := Claim7.holds Tryd.pinned (.plain (OpenSpec.upto faultMustSpec)) faultMustUptoCard

/-- THE SECOND FORM's CARD OF 'handofflaw09.FaultTells'. -/
def faultTellsUptoCard : Claim7 := { stood := { row := faultTellsUptoRow, standIns := [], harness := (true, "bbe3cd04dc05a30ab57bb51c087a42684f8a77b7c847b8aca3f1c64cadf056a7"), looks := true }, kinds := [], alts := [], laidByText := true, laidKinds := [.data, .data, .data, .handle, .sentinel, .sentinel, .sentinel], laidTests := true, laidLooks := .later }
def FaultTellsUptoCardSaid : Prop := Claim7.holds Tryd.pinned (.plain (OpenSpec.upto faultTellsSpec)) faultTellsUptoCard

/-- THE SECOND FORM's CARD OF 'handofflaw09.FaultWraps'. -/
def faultWrapsUptoCard : Claim7 := { stood := { row := faultWrapsUptoRow, standIns := [], harness := (true, "bbe3cd04dc05a30ab57bb51c087a42684f8a77b7c847b8aca3f1c64cadf056a7"), looks := true }, kinds := [], alts := [], laidByText := true, laidKinds := [.data, .data, .data, .handle, .sentinel, .sentinel, .sentinel], laidTests := true, laidLooks := .later }
def FaultWrapsUptoCardSaid : Prop := Claim7.holds Tryd.pinned (.plain (OpenSpec.upto faultWrapsSpec)) faultWrapsUptoCard
end Rows
end Go.Proofs.YtihmklfmeghgaaaDoor
