/-
  DERIVED. GIVEN WITH THE SEED: THE CARDS: each row of YtbjnbngpjdoejaaDoorRows.lean that lists a variable, with what it lists TIED to the program's text (the seventh form; the later family's looks); each row that meets fmt, with fmt's text TOLD by the authors' own Lean function (tested against real Go, not proved from fmt's source: count such statements apart). THE CARD IS WHAT COUNTS. Prove the row's statement (the work); the ties are given (YtbjnbngpjdoejaaDoorTie.lean); close each card by the builder's one call (the guide's Derived/Test/ToyasCard.lean, 'card_holds'). Laid BY PROGRAM, IN A SANDBOX (cutbox-door.mjs). By AI agents, Wed Nov 11 2026. No macro, syntax, notation, axiom, sorry.
-/
import Derived.Test.YtbjnbngpjdoejaaDoorRows
import GoSem.ClaimSeven
namespace Go.Proofs.YtbjnbngpjdoejaaDoor
namespace Rows

/-- THE TIED CARD OF 'handofflaw11.WordsReads'. -/
def wordsReadsCard : Claim7 := { stood := { row := wordsReadsRow, standIns := [], harness := (true, "9966ea8d1f232cabbb2a411d9cc6c277fe1b0a13f9773857a11be81555f2dae9"), looks := true }, kinds := [], alts := [], laidByText := true, laidKinds := [.data, .data, .data, .data, .sentinel, .sentinel, .pinned], laidTests := true, laidLooks := .later }
def WordsReadsCardSaid : Prop := Claim7.holds Tryd.pinned (.plain (OpenSpec.ofChange wordsReadsSpec)) wordsReadsCard

/-- THE TIED CARD OF 'handofflaw11.WordsBack'. -/
def wordsBackCard : Claim7 := { stood := { row := wordsBackRow, standIns := [], harness := (true, "9966ea8d1f232cabbb2a411d9cc6c277fe1b0a13f9773857a11be81555f2dae9"), looks := true }, kinds := [], alts := [], laidByText := true, laidKinds := [.data, .data, .data, .data, .sentinel, .sentinel, .pinned], laidTests := true, laidLooks := .later }
def WordsBackCardSaid : Prop := Claim7.holds Tryd.pinned (.plain (OpenSpec.ofChange wordsBackSpec)) wordsBackCard

/-- THE SECOND FORM's CARD OF 'handofflaw11.WordsReads'. -/
def wordsReadsUptoCard : Claim7 := { stood := { row := wordsReadsUptoRow, standIns := [], harness := (true, "9966ea8d1f232cabbb2a411d9cc6c277fe1b0a13f9773857a11be81555f2dae9"), looks := true }, kinds := [], alts := [], laidByText := true, laidKinds := [.data, .data, .data, .data, .sentinel, .sentinel, .pinned], laidTests := true, laidLooks := .later }
def WordsReadsUptoCardSaid : Prop := Claim7.holds Tryd.pinned (.plain (OpenSpec.upto wordsReadsSpec)) wordsReadsUptoCard

/-- THE SECOND FORM's CARD OF 'handofflaw11.WordsBack'. -/
def wordsBackUptoCard : Claim7 := { stood := { row := wordsBackUptoRow, standIns := [], harness := (true, "9966ea8d1f232cabbb2a411d9cc6c277fe1b0a13f9773857a11be81555f2dae9"), looks := true }, kinds := [], alts := [], laidByText := true, laidKinds := [.data, .data, .data, .data, .sentinel, .sentinel, .pinned], laidTests := true, laidLooks := .later }
def WordsBackUptoCardSaid : Prop := Claim7.holds Tryd.pinned (.plain (OpenSpec.upto wordsBackSpec)) wordsBackUptoCard
end Rows
end Go.Proofs.YtbjnbngpjdoejaaDoor
