/-
  DERIVED. GIVEN WITH THE SEED: THE CARDS: each row of YtjmfepncipfenaaDoorRows.lean that lists a variable, with what it lists TIED to the program's text (the seventh form; the later family's looks); each row that meets fmt, with fmt's text TOLD by the authors' own Lean function (tested against real Go, not proved from fmt's source: count such statements apart). THE CARD IS WHAT COUNTS. Prove the row's statement (the work); the ties are given (YtjmfepncipfenaaDoorTie.lean); close each card by the builder's one call (the guide's Derived/Test/ToyasCard.lean, 'card_holds'). Laid BY PROGRAM, IN A SANDBOX (cutbox-door.mjs). By AI agents, Wed Nov 11 2026. No macro, syntax, notation, axiom, sorry.
-/
import Derived.Test.YtjmfepncipfenaaDoorRows
import GoSem.ClaimSeven
namespace Go.Proofs.YtjmfepncipfenaaDoor
namespace Rows

/-- THE TIED CARD OF 'laws.FnExactStartExpansion'. -/
def fnExactStartExpansionCard : Claim7 := { stood := { row := fnExactStartExpansionRow, standIns := [], harness := (true, "11ca97cf5e36c002fee72b9d5cdacd61d1ef4419054d041307732634c1357758"), looks := false }, kinds := [], alts := [], laidByText := true, laidKinds := [.widerDeep], laidTests := true, laidLooks := .later }
def FnExactStartExpansionCardSaid : Prop := Claim7.holds Tryd.pinned (.plain (OpenSpec.ofChange fnExactStartExpansionSpec)) fnExactStartExpansionCard

/-- THE SECOND FORM's CARD OF 'laws.FnExactStartExpansion'. -/
def fnExactStartExpansionUptoCard : Claim7 := { stood := { row := fnExactStartExpansionUptoRow, standIns := [], harness := (true, "11ca97cf5e36c002fee72b9d5cdacd61d1ef4419054d041307732634c1357758"), looks := false }, kinds := [], alts := [], laidByText := true, laidKinds := [.widerDeep], laidTests := true, laidLooks := .later }
def FnExactStartExpansionUptoCardSaid : Prop := Claim7.holds Tryd.pinned (.plain (OpenSpec.upto fnExactStartExpansionSpec)) fnExactStartExpansionUptoCard
end Rows
end Go.Proofs.YtjmfepncipfenaaDoor
