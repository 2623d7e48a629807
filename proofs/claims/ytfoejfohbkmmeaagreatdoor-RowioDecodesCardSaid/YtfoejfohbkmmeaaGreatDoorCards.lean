/-
  DERIVED. GIVEN WITH THE SEED: THE CARDS: each row of YtfoejfohbkmmeaaGreatDoorRows.lean that lists a variable, with what it lists TIED to the program's text (the seventh form; the later family's looks); each row that meets fmt, with fmt's text TOLD by the authors' own Lean function (tested against real Go, not proved from fmt's source: count such statements apart). THE CARD IS WHAT COUNTS. Prove the row's statement (the work); the ties are given (YtfoejfohbkmmeaaGreatDoorTie.lean); close each card by the builder's one call (the guide's Derived/Test/ToyasCard.lean, 'card_holds'). Laid BY PROGRAM, IN A SANDBOX (cutbox-door.mjs). By AI agents, Wed Nov 11 2026. No macro, syntax, notation, axiom, sorry.
-/
import Derived.Test.YtfoejfohbkmmeaaGreatDoorRows
import GoSem.ClaimSeven
namespace Go.Proofs.YtfoejfohbkmmeaaGreatDoor
namespace Rows

/-- THE TIED CARD OF 'credencelaw10.RowioParses'. -/
def rowioParsesCard : Claim7 := { stood := { row := rowioParsesRow, standIns := [], harness := (true, "fea6d19c5e12846006aa18269c30404296bf57991e355ffbcf0becab479cd242"), looks := true }, kinds := [], alts := [], laidByText := true, laidKinds := [.data, .data, .data, .data, .sentinel, .sentinel, .pinned], laidTests := true, laidLooks := .later }
def RowioParsesCardSaid : Prop := Claim7.holds Tryz.pinned (.plain (OpenSpec.ofChange rowioParsesSpec)) rowioParsesCard

/-- THE TIED CARD OF 'credencelaw10.RowioFormats'. -/
def rowioFormatsCard : Claim7 := { stood := { row := rowioFormatsRow, standIns := [], harness := (true, "fea6d19c5e12846006aa18269c30404296bf57991e355ffbcf0becab479cd242"), looks := true }, kinds := [], alts := [], laidByText := true, laidKinds := [.data, .data, .data, .data, .sentinel, .sentinel, .pinned], laidTests := true, laidLooks := .later }
def RowioFormatsCardSaid : Prop := Claim7.holds Tryz.pinned (.plain (OpenSpec.ofChange rowioFormatsSpec)) rowioFormatsCard

/-- THE TIED CARD OF 'credencelaw10.RowioLines'. -/
def rowioLinesCard : Claim7 := { stood := { row := rowioLinesRow, standIns := [], harness := (true, "fea6d19c5e12846006aa18269c30404296bf57991e355ffbcf0becab479cd242"), looks := true }, kinds := [], alts := [], laidByText := true, laidKinds := [.data, .data, .data, .data, .sentinel, .sentinel, .pinned], laidTests := true, laidLooks := .later }
def RowioLinesCardSaid : Prop := Claim7.holds Tryz.pinned (.plain (OpenSpec.ofChange rowioLinesSpec)) rowioLinesCard

/-- THE TIED CARD OF 'credencelaw10.RowioBinary'. -/
def rowioBinaryCard : Claim7 := { stood := { row := rowioBinaryRow, standIns := [], harness := (true, "fea6d19c5e12846006aa18269c30404296bf57991e355ffbcf0becab479cd242"), looks := true }, kinds := [], alts := [], laidByText := true, laidKinds := [.data, .data, .data, .data, .sentinel, .sentinel, .pinned], laidTests := true, laidLooks := .later }
def RowioBinaryCardSaid : Prop := Claim7.holds Tryz.pinned (.plain (OpenSpec.ofChange rowioBinarySpec)) rowioBinaryCard

/-- THE TIED CARD OF 'credencelaw10.RowioDecodes'. -/
def rowioDecodesCard : Claim7 := { stood := { row := rowioDecodesRow, standIns := [], harness := (true, "fea6d19c5e12846006aa18269c30404296bf57991e355ffbcf0becab479cd242"), looks := true }, kinds := [], alts := [], laidByText := true, laidKinds := [.data, .data, .data, .data, .sentinel, .sentinel, .pinned], laidTests := true, laidLooks := .later }
def RowioDecodesCardSaid : Prop := Claim7.holds Tryz.pinned (.plain (OpenSpec.ofChange rowioDecodesSpec)) rowioDecodesCard

/-- THE TIED CARD OF 'credencelaw10.RowioDetects'. -/
def rowioDetectsCard : Claim7 := { stood := { row := rowioDetectsRow, standIns := [], harness := (true, "fea6d19c5e12846006aa18269c30404296bf57991e355ffbcf0becab479cd242"), looks := true }, kinds := [], alts := [], laidByText := true, laidKinds := [.data, .data, .data, .data, .sentinel, .sentinel, .pinned], laidTests := true, laidLooks := .later }
def RowioDetectsCardSaid : Prop := Claim7.holds Tryz.pinned (.plain (OpenSpec.ofChange rowioDetectsSpec)) rowioDetectsCard

/-- THE SECOND FORM's CARD OF 'credencelaw10.RowioParses'. -/
def rowioParsesUptoCard : Claim7 := { stood := { row := rowioParsesUptoRow, standIns := [], harness := (true, "fea6d19c5e12846006aa18269c30404296bf57991e355ffbcf0becab479cd242"), looks := true }, kinds := [], alts := [], laidByText := true, laidKinds := [.data, .data, .data, .data, .sentinel, .sentinel, .pinned], laidTests := true, laidLooks := .later }
def RowioParsesUptoCardSaid : Prop := Claim7.holds Tryz.pinned (.plain (OpenSpec.upto rowioParsesSpec)) rowioParsesUptoCard

/-- THE SECOND FORM's CARD OF 'credencelaw10.RowioFormats'. -/
def rowioFormatsUptoCard : Claim7 := { stood := { row := rowioFormatsUptoRow, standIns := [], harness := (true, "fea6d19c5e12846006aa18269c30404296bf57991e355ffbcf0becab479cd242"), looks := true }, kinds := [], alts := [], laidByText := true, laidKinds := [.data, .data, .data, .data, .sentinel, .sentinel, .pinned], laidTests := true, laidLooks := .later }
def RowioFormatsUptoCardSaid : Prop := Claim7.holds Tryz.pinned (.plain (OpenSpec.upto rowioFormatsSpec)) rowioFormatsUptoCard

/-- THE SECOND FORM's CARD OF 'credencelaw10.RowioLines'. -/
def rowioLinesUptoCard : Claim7 := { stood := { row := rowioLinesUptoRow, standIns := [], harness := (true, "fea6d19c5e12846006aa18269c30404296bf57991e355ffbcf0becab479cd242"), looks := true }, kinds := [], alts := [], laidByText := true, laidKinds := [.data, .data, .data, .data, .sentinel, .sentinel, .pinned], laidTests := true, laidLooks := .later }
def RowioLinesUptoCardSaid : Prop := Claim7.holds Tryz.pinned (.plain (OpenSpec.upto rowioLinesSpec)) rowioLinesUptoCard

/-- THE SECOND FORM's CARD OF 'credencelaw10.RowioBinary'. -/
def rowioBinaryUptoCard : Claim7 := { stood := { row := rowioBinaryUptoRow, standIns := [], harness := (true, "fea6d19c5e12846006aa18269c30404296bf57991e355ffbcf0becab479cd242"), looks := true }, kinds := [], alts := [], laidByText := true, laidKinds := [.data, .data, .data, .data, .sentinel, .sentinel, .pinned], laidTests := true, laidLooks := .later }
def RowioBinaryUptoCardSaid : Prop := Claim7.holds Tryz.pinned (.plain (OpenSpec.upto rowioBinarySpec)) rowioBinaryUptoCard

/-- THE SECOND FORM's CARD OF 'credencelaw10.RowioDecodes'. -/
def rowioDecodesUptoCard : Claim7 := { stood := { row := rowioDecodesUptoRow, standIns := [], harness := (true, "fea6d19c5e12846006aa18269c30404296bf57991e355ffbcf0becab479cd242"), looks := true }, kinds := [], alts := [], laidByText := true, laidKinds := [.data, .data, .data, .data, .sentinel, .sentinel, .pinned], laidTests := true, laidLooks := .later }
def RowioDecodesUptoCardSaid : Prop := Claim7.holds Tryz.pinned (.plain (OpenSpec.upto rowioDecodesSpec)) rowioDecodesUptoCard

/-- THE SECOND FORM's CARD OF 'credencelaw10.RowioDetects'. -/
def rowioDetectsUptoCard : Claim7 := { stood := { row := rowioDetectsUptoRow, standIns := [], harness := (true, "fea6d19c5e12846006aa18269c30404296bf57991e355ffbcf0becab479cd242"), looks := true }, kinds := [], alts := [], laidByText := true, laidKinds := [.data, .data, .data, .data, .sentinel, .sentinel, .pinned], laidTests := true, laidLooks := .later }
def RowioDetectsUptoCardSaid : Prop := Claim7.holds Tryz.pinned (.plain (OpenSpec.upto rowioDetectsSpec)) rowioDetectsUptoCard
end Rows
end Go.Proofs.YtfoejfohbkmmeaaGreatDoor
