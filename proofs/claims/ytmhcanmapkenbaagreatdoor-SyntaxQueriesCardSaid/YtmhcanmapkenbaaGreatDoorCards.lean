/-
  DERIVED. GIVEN WITH THE SEED: THE CARDS: each row of YtmhcanmapkenbaaGreatDoorRows.lean that lists a variable, with what it lists TIED to the program's text (the seventh form; the later family's looks); each row that meets fmt, with fmt's text TOLD by the authors' own Lean function (tested against real Go, not proved from fmt's source: count such statements apart). THE CARD IS WHAT COUNTS. Prove the row's statement (the work); the ties are given (YtmhcanmapkenbaaGreatDoorTie.lean); close each card by the builder's one call (the guide's Derived/Test/ToyasCard.lean, 'card_holds'). Laid BY PROGRAM, IN A SANDBOX (cutbox-door.mjs). By AI agents, Wed Nov 11 2026. No macro, syntax, notation, axiom, sorry.
-/
import Derived.Test.YtmhcanmapkenbaaGreatDoorRows
import GoSem.ClaimSeven
namespace Go.Proofs.YtmhcanmapkenbaaGreatDoor
namespace Rows

/-- THE TIED CARD OF 'credencelaw13.SyntaxAnswers'. -/
def syntaxAnswersCard : Claim7 := { stood := { row := syntaxAnswersRow, standIns := [], harness := (true, "1bb1be781e2a06e20a464c96c29e179fe4983065e208eff58fb4d26d9cc673d9"), looks := true }, kinds := [], alts := [], laidByText := true, laidKinds := [.data, .data, .data, .data, .sentinel, .sentinel, .pinned], laidTests := true, laidLooks := .later }
def SyntaxAnswersCardSaid : Prop := Claim7.holds Tryz.pinned (.plain (OpenSpec.ofChange syntaxAnswersSpec)) syntaxAnswersCard

/-- THE TIED CARD OF 'credencelaw13.SyntaxQueries'. -/
def syntaxQueriesCard : Claim7 := { stood := { row := syntaxQueriesRow, standIns := [], harness := (true, "1bb1be781e2a06e20a464c96c29e179fe4983065e208eff58fb4d26d9cc673d9"), looks := true }, kinds := [], alts := [], laidByText := true, laidKinds := [.data, .data, .data, .data, .sentinel, .sentinel, .pinned], laidTests := true, laidLooks := .later }
def SyntaxQueriesCardSaid : Prop := Claim7.holds Tryz.pinned (.plain (OpenSpec.ofChange syntaxQueriesSpec)) syntaxQueriesCard

/-- THE SECOND FORM's CARD OF 'credencelaw13.SyntaxAnswers'. -/
def syntaxAnswersUptoCard : Claim7 := { stood := { row := syntaxAnswersUptoRow, standIns := [], harness := (true, "1bb1be781e2a06e20a464c96c29e179fe4983065e208eff58fb4d26d9cc673d9"), looks := true }, kinds := [], alts := [], laidByText := true, laidKinds := [.data, .data, .data, .data, .sentinel, .sentinel, .pinned], laidTests := true, laidLooks := .later }
def SyntaxAnswersUptoCardSaid : Prop := Claim7.holds Tryz.pinned (.plain (OpenSpec.upto syntaxAnswersSpec)) syntaxAnswersUptoCard

/-- THE SECOND FORM's CARD OF 'credencelaw13.SyntaxQueries'. -/
def syntaxQueriesUptoCard : Claim7 := { stood := { row := syntaxQueriesUptoRow, standIns := [], harness := (true, "1bb1be781e2a06e20a464c96c29e179fe4983065e208eff58fb4d26d9cc673d9"), looks := true }, kinds := [], alts := [], laidByText := true, laidKinds := [.data, .data, .data, .data, .sentinel, .sentinel, .pinned], laidTests := true, laidLooks := .later }
def SyntaxQueriesUptoCardSaid : Prop := Claim7.holds Tryz.pinned (.plain (OpenSpec.upto syntaxQueriesSpec)) syntaxQueriesUptoCard
end Rows
end Go.Proofs.YtmhcanmapkenbaaGreatDoor
