/-
  DERIVED. GIVEN WITH THE SEED: THE CARDS: each row of YtidbdmpbcpanjaaGreatDoorRows.lean that lists a variable, with what it lists TIED to the program's text (the seventh form; the later family's looks); each row that meets fmt, with fmt's text TOLD by the authors' own Lean function (tested against real Go, not proved from fmt's source: count such statements apart). THE CARD IS WHAT COUNTS. Prove the row's statement (the work); the ties are given (YtidbdmpbcpanjaaGreatDoorTie.lean); close each card by the builder's one call (the guide's Derived/Test/ToyasCard.lean, 'card_holds'). Laid BY PROGRAM, IN A SANDBOX (cutbox-door.mjs). By AI agents, Wed Nov 11 2026. No macro, syntax, notation, axiom, sorry.
-/
import Derived.Test.YtidbdmpbcpanjaaGreatDoorRows
import GoSem.ClaimSeven
namespace Go.Proofs.YtidbdmpbcpanjaaGreatDoor
namespace Rows

/-- THE TIED CARD OF 'laws.FnFormText'. -/
def fnFormTextCard : Claim7 := { stood := { row := fnFormTextRow, standIns := [], harness := (true, "622e17c692d904266d7ec71a2fe656e0735aef85e094d0f8cefec1be57ce60f7"), looks := true }, kinds := [], alts := [], laidByText := true, laidKinds := [.data, .data, .data, .data, .sentinel, .sentinel, .pinned], laidTests := true, laidLooks := .later }
def FnFormTextCardSaid : Prop := Claim7.holds Tryz.pinned (.plain (OpenSpec.ofChange fnFormTextSpec)) fnFormTextCard

/-- THE TIED CARD OF 'laws.FnFormBlanks'. -/
def fnFormBlanksCard : Claim7 := { stood := { row := fnFormBlanksRow, standIns := [], harness := (true, "622e17c692d904266d7ec71a2fe656e0735aef85e094d0f8cefec1be57ce60f7"), looks := true }, kinds := [], alts := [], laidByText := true, laidKinds := [.data, .data, .data, .data, .sentinel, .sentinel, .pinned], laidTests := true, laidLooks := .later }
def FnFormBlanksCardSaid : Prop := Claim7.holds Tryz.pinned (.plain (OpenSpec.ofChange fnFormBlanksSpec)) fnFormBlanksCard

/-- THE SECOND FORM's CARD OF 'laws.FnFormText'. -/
def fnFormTextUptoCard : Claim7 := { stood := { row := fnFormTextUptoRow, standIns := [], harness := (true, "622e17c692d904266d7ec71a2fe656e0735aef85e094d0f8cefec1be57ce60f7"), looks := true }, kinds := [], alts := [], laidByText := true, laidKinds := [.data, .data, .data, .data, .sentinel, .sentinel, .pinned], laidTests := true, laidLooks := .later }
def FnFormTextUptoCardSaid : Prop := Claim7.holds Tryz.pinned (.plain (OpenSpec.upto fnFormTextSpec)) fnFormTextUptoCard

/-- THE SECOND FORM's CARD OF 'laws.FnFormBlanks'. -/
def fnFormBlanksUptoCard : Claim7 := { stood := { row := fnFormBlanksUptoRow, standIns := [], harness := (true, "622e17c692d904266d7ec71a2fe656e0735aef85e094d0f8cefec1be57ce60f7"), looks := true }, kinds := [], alts := [], laidByText := true, laidKinds := [.data, .data, .data, .data, .sentinel, .sentinel, .pinned], laidTests := true, laidLooks := .later }
def FnFormBlanksUptoCardSaid : Prop := Claim7.holds Tryz.pinned (.plain (OpenSpec.upto fnFormBlanksSpec)) fnFormBlanksUptoCard
end Rows
end Go.Proofs.YtidbdmpbcpanjaaGreatDoor
