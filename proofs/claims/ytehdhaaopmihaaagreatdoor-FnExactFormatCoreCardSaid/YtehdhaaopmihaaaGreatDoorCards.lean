/-
  DERIVED. GIVEN WITH THE SEED: THE CARDS: each row of YtehdhaaopmihaaaGreatDoorRows.lean that lists a variable, with what it lists TIED to the program's text (the seventh form; the later family's looks); each row that meets fmt, with fmt's text TOLD by the authors' own Lean function (tested against real Go, not proved from fmt's source: count such statements apart). THE CARD IS WHAT COUNTS. Prove the row's statement (the work); the ties are given (YtehdhaaopmihaaaGreatDoorTie.lean); close each card by the builder's one call (the guide's Derived/Test/ToyasCard.lean, 'card_holds'). Laid BY PROGRAM, IN A SANDBOX (cutbox-door.mjs). By AI agents, Wed Nov 11 2026. No macro, syntax, notation, axiom, sorry.
-/
import Derived.Test.YtehdhaaopmihaaaGreatDoorRows
import GoSem.ClaimSeven
namespace Go.Proofs.YtehdhaaopmihaaaGreatDoor
namespace Rows

/-- THE TIED CARD OF 'laws.FnExactFormatCore'. -/
def fnExactFormatCoreCard : Claim7 := { stood := { row := fnExactFormatCoreRow, standIns := [], harness := (true, "35d015726db2cb8bdb342e2c109da95047a24b31dea99a07a52cdcef7da9c86c"), looks := true }, kinds := [], alts := [], laidByText := true, laidKinds := [.data, .data, .data], laidTests := true, laidLooks := .later }
def FnExactFormatCoreCardSaid : Prop := Claim7.holds Tryz.pinned (.plain (OpenSpec.ofChange fnExactFormatCoreSpec)) fnExactFormatCoreCard

/-- THE TIED CARD OF 'laws.FnCoreText'. -/
def fnCoreTextCard : Claim7 := { stood := { row := fnCoreTextRow, standIns := [], harness := (true, "35d015726db2cb8bdb342e2c109da95047a24b31dea99a07a52cdcef7da9c86c"), looks := true }, kinds := [], alts := [], laidByText := true, laidKinds := [.data, .data, .data], laidTests := true, laidLooks := .later }
def FnCoreTextCardSaid : Prop := Claim7.holds Tryz.pinned (.plain (OpenSpec.ofChange fnCoreTextSpec)) fnCoreTextCard

/-- THE TIED CARD OF 'laws.FnCoreBrackets'. -/
def fnCoreBracketsCard : Claim7 := { stood := { row := fnCoreBracketsRow, standIns := [], harness := (true, "35d015726db2cb8bdb342e2c109da95047a24b31dea99a07a52cdcef7da9c86c"), looks := true }, kinds := [], alts := [], laidByText := true, laidKinds := [.data, .data, .data], laidTests := true, laidLooks := .later }
def FnCoreBracketsCardSaid : Prop := Claim7.holds Tryz.pinned (.plain (OpenSpec.ofChange fnCoreBracketsSpec)) fnCoreBracketsCard

/-- THE TIED CARD OF 'laws.FnAlikeText'. -/
def fnAlikeTextCard : Claim7 := { stood := { row := fnAlikeTextRow, standIns := [], harness := (true, "35d015726db2cb8bdb342e2c109da95047a24b31dea99a07a52cdcef7da9c86c"), looks := true }, kinds := [], alts := [], laidByText := true, laidKinds := [.data, .data, .data], laidTests := true, laidLooks := .later }
def FnAlikeTextCardSaid : Prop := Claim7.holds Tryz.pinned (.plain (OpenSpec.ofChange fnAlikeTextSpec)) fnAlikeTextCard

/-- THE TIED CARD OF 'laws.FnFormText'. -/
def fnFormTextCard : Claim7 := { stood := { row := fnFormTextRow, standIns := [], harness := (true, "35d015726db2cb8bdb342e2c109da95047a24b31dea99a07a52cdcef7da9c86c"), looks := true }, kinds := [], alts := [], laidByText := true, laidKinds := [.data, .data, .data, .data, .sentinel, .sentinel, .pinned], laidTests := true, laidLooks := .later }
def FnFormTextCardSaid : Prop := Claim7.holds Tryz.pinned (.plain (OpenSpec.ofChange fnFormTextSpec)) fnFormTextCard

/-- THE TIED CARD OF 'laws.FnFormBlanks'. -/
def fnFormBlanksCard : Claim7 := { stood := { row := fnFormBlanksRow, standIns := [], harness := (true, "35d015726db2cb8bdb342e2c109da95047a24b31dea99a07a52cdcef7da9c86c"), looks := true }, kinds := [], alts := [], laidByText := true, laidKinds := [.data, .data, .data, .data, .sentinel, .sentinel, .pinned], laidTests := true, laidLooks := .later }
def FnFormBlanksCardSaid : Prop := Claim7.holds Tryz.pinned (.plain (OpenSpec.ofChange fnFormBlanksSpec)) fnFormBlanksCard

/-- THE SECOND FORM's CARD OF 'laws.FnExactFormatCore'. -/
def fnExactFormatCoreUptoCard : Claim7 := { stood := { row := fnExactFormatCoreUptoRow, standIns := [], harness := (true, "35d015726db2cb8bdb342e2c109da95047a24b31dea99a07a52cdcef7da9c86c"), looks := true }, kinds := [], alts := [], laidByText := true, laidKinds := [.data, .data, .data], laidTests := true, laidLooks := .later }
def FnExactFormatCoreUptoCardSaid : Prop := Claim7.holds Tryz.pinned (.plain (OpenSpec.upto fnExactFormatCoreSpec)) fnExactFormatCoreUptoCard

/-- THE SECOND FORM's CARD OF 'laws.FnCoreText'. -/
def fnCoreTextUptoCard : Claim7 := { stood := { row := fnCoreTextUptoRow, standIns := [], harness := (true, "35d015726db2cb8bdb342e2c109da95047a24b31dea99a07a52cdcef7da9c86c"), looks := true }, kinds := [], alts := [], laidByText := true, laidKinds := [.data, .data, .data], laidTests := true, laidLooks := .later }
def FnCoreTextUptoCardSaid : Prop := Claim7.holds Tryz.pinned (.plain (OpenSpec.upto fnCoreTextSpec)) fnCoreTextUptoCard

/-- THE SECOND FORM's CARD OF 'laws.FnCoreBrackets'. -/
def fnCoreBracketsUptoCard : Claim7 := { stood := { row := fnCoreBracketsUptoRow, standIns := [], harness := (true, "35d015726db2cb8bdb342e2c109da95047a24b31dea99a07a52cdcef7da9c86c"), looks := true }, kinds := [], alts := [], laidByText := true, laidKinds := [.data, .data, .data], laidTests := true, laidLooks := .later }
def FnCoreBracketsUptoCardSaid : Prop := Claim7.holds Tryz.pinned (.plain (OpenSpec.upto fnCoreBracketsSpec)) fnCoreBracketsUptoCard

/-- THE SECOND FORM's CARD OF 'laws.FnAlikeText'. -/
def fnAlikeTextUptoCard : Claim7 := { stood := { row := fnAlikeTextUptoRow, standIns := [], harness := (true, "35d015726db2cb8bdb342e2c109da95047a24b31dea99a07a52cdcef7da9c86c"), looks := true }, kinds := [], alts := [], laidByText := true, laidKinds := [.data, .data, .data], laidTests := true, laidLooks := .later }
def FnAlikeTextUptoCardSaid : Prop := Claim7.holds Tryz.pinned (.plain (OpenSpec.upto fnAlikeTextSpec)) fnAlikeTextUptoCard

/-- THE SECOND FORM's CARD OF 'laws.FnFormText'. -/
def fnFormTextUptoCard : Claim7 := { stood := { row := fnFormTextUptoRow, standIns := [], harness := (true, "35d015726db2cb8bdb342e2c109da95047a24b31dea99a07a52cdcef7da9c86c"), looks := true }, kinds := [], alts := [], laidByText := true, laidKinds := [.data, .data, .data, .data, .sentinel, .sentinel, .pinned], laidTests := true, laidLooks := .later }
def FnFormTextUptoCardSaid : Prop := Claim7.holds Tryz.pinned (.plain (OpenSpec.upto fnFormTextSpec)) fnFormTextUptoCard

/-- THE SECOND FORM's CARD OF 'laws.FnFormBlanks'. -/
def fnFormBlanksUptoCard : Claim7 := { stood := { row := fnFormBlanksUptoRow, standIns := [], harness := (true, "35d015726db2cb8bdb342e2c109da95047a24b31dea99a07a52cdcef7da9c86c"), looks := true }, kinds := [], alts := [], laidByText := true, laidKinds := [.data, .data, .data, .data, .sentinel, .sentinel, .pinned], laidTests := true, laidLooks := .later }
def FnFormBlanksUptoCardSaid : Prop := Claim7.holds Tryz.pinned (.plain (OpenSpec.upto fnFormBlanksSpec)) fnFormBlanksUptoCard
end Rows
end Go.Proofs.YtehdhaaopmihaaaGreatDoor
