/-
  DERIVED. GIVEN WITH THE SEED: THE CARDS: each row of YtpmhanibecniaaaDoorRows.lean that lists a variable, with what it lists TIED to the program's text (the seventh form; the later family's looks); each row that meets fmt, with fmt's text TOLD by the authors' own Lean function (tested against real Go, not proved from fmt's source: count such statements apart). THE CARD IS WHAT COUNTS. Prove the row's statement (the work); the ties are given (YtpmhanibecniaaaDoorTie.lean); close each card by the builder's one call (the guide's Derived/Test/ToyasCard.lean, 'card_holds'). Laid BY PROGRAM, IN A SANDBOX (cutbox-door.mjs). By AI agents, Wed Nov 11 2026. No macro, syntax, notation, axiom, sorry.
-/
import Derived.Test.YtpmhanibecniaaaDoorRows
import GoSem.ClaimSeven
namespace Go.Proofs.YtpmhanibecniaaaDoor
namespace Rows

/-- THE TIED CARD OF 'laws.FnNameValid'. -/
def fnNameValidCard : Claim7 := { stood := { row := fnNameValidRow, standIns := [], harness := (true, "fc085a90e2345f9cdb4f74fd113509357e74ee9011b8d0c8dae05d8871c4c199"), looks := true }, kinds := [], alts := [], laidByText := true, laidKinds := [.data, .data, .data, .data, .sentinel, .sentinel, .pinned], laidTests := true, laidLooks := .later }
def FnNameValidCardSaid : Prop := Claim7.holds Tryd.pinned (.plain (OpenSpec.ofChange fnNameValidSpec)) fnNameValidCard

/-- THE TIED CARD OF 'laws.FnExactParseForm'. -/
def fnExactParseFormCard : Claim7 := { stood := { row := fnExactParseFormRow, standIns := [], harness := (true, "fc085a90e2345f9cdb4f74fd113509357e74ee9011b8d0c8dae05d8871c4c199"), looks := true }, kinds := [], alts := [], laidByText := true, laidKinds := [.data, .data, .data, .data, .sentinel, .sentinel, .pinned], laidTests := true, laidLooks := .later }
def FnExactParseFormCardSaid : Prop := Claim7.holds Tryd.pinned (.plain (OpenSpec.ofChange fnExactParseFormSpec)) fnExactParseFormCard

/-- THE SECOND FORM's CARD OF 'laws.FnNameValid'. -/
def fnNameValidUptoCard : Claim7 := { stood := { row := fnNameValidUptoRow, standIns := [], harness := (true, "fc085a90e2345f9cdb4f74fd113509357e74ee9011b8d0c8dae05d8871c4c199"), looks := true }, kinds := [], alts := [], laidByText := true, laidKinds := [.data, .data, .data, .data, .sentinel, .sentinel, .pinned], laidTests := true, laidLooks := .later }
def FnNameValidUptoCardSaid : Prop := Claim7.holds Tryd.pinned (.plain (OpenSpec.upto fnNameValidSpec)) fnNameValidUptoCard

/-- THE SECOND FORM's CARD OF 'laws.FnExactParseForm'. -/
def fnExactParseFormUptoCard : Claim7 := { stood := { row := fnExactParseFormUptoRow, standIns := [], harness := (true, "fc085a90e2345f9cdb4f74fd113509357e74ee9011b8d0c8dae05d8871c4c199"), looks := true }, kinds := [], alts := [], laidByText := true, laidKinds := [.data, .data, .data, .data, .sentinel, .sentinel, .pinned], laidTests := true, laidLooks := .later }
def FnExactParseFormUptoCardSaid : Prop := Claim7.holds Tryd.pinned (.plain (OpenSpec.upto fnExactParseFormSpec)) fnExactParseFormUptoCard
end Rows
end Go.Proofs.YtpmhanibecniaaaDoor
