/-
  NARROWER THAN 'FOR EVERY INPUT', by the rows' own cells (each row's printed sentence says how): FnExactStartExpansion: laid.
  DERIVED. THE GIVEN ROWS OF THIS SEAT. 1 by the template 'for every input the law returns true; each argument reads behind the call as it read before'; 0 by the template 'total and deterministic' (their statements: YtjmfepncipfenaaDoorTotals.lean).
  GIVEN WITH THE SEED: the statements are not yours to turn. If you find one false, say at which input.
  Laid BY PROGRAM, IN A SANDBOX (cutbox-rows.mjs): the forced cells as the released guide's own fill.sh prints them over the translation 5e6e9522ecaccfa7… (all of the seat's roots in one cut). By AI agents, Wed Nov 11 2026. No macro, syntax, notation, axiom, sorry.
-/
import Derived.Test.YtjmfepncipfenaaDoorChecked
import GoSem.Claim
import GoSem.ClaimJoined
import GoSem.ClaimMapViews
import Derived.JoinedTies
import Derived.KernelRfl
namespace Go.Proofs.YtjmfepncipfenaaDoor
/- THE CELL 'sum', in the pinned program and in every row, IS THE sha256 OF THE DUMP (.gsa) THAT YtjmfepncipfenaaDoorProg.lean LOADS. Nothing in Lean hashes anything: it is a label: what it is worth is what the hold of that sum in a sandbox is worth. -/
noncomputable def Tryd.pinned : Pinned := { name := "ytjmfepncipfenaadoor", sum := "5e6e9522ecaccfa7c0e02e63c4ac192c0cc069b48c3e2af3d4f891e32ae05d45", checked := Tryd.checked }
namespace Rows
def none {H : Type} : Left H := { results := [], args := [] }

/- WHAT THE LISTED PACKAGE-LEVEL VARIABLES READ AS WHEN THE CALL BEGINS. Each datum BY PROGRAM (the guide's laid-datum.mjs) off the statement by which the dump's own 'gosem.cut.vars' lays the variable. In a bare row this is a premise. The card (YtjmfepncipfenaaDoorCards.lean) ties it to the program's text. -/
def laid_loop_example_macroexpander_impl_coreForms {H : Type} : DataW H := .agg [.lit (.string [108, 97, 109, 98, 100, 97]), .lit (.string [105, 102]), .lit (.string [113, 117, 111, 116, 101]), .lit (.string [108, 101, 116]), .lit (.string [108, 101, 116, 45, 115, 121, 110, 116, 97, 120])]

/-- 'laws.FnExactStartExpansion': WHATEVER THE INPUT: true; the input reads as it did. -/
def fnExactStartExpansionSpec : ChangeSpec := { name := "fnExactStartExpansion", vars := ["loop.example/macroexpander/impl.coreForms"], fn := fun _ => fun
  | [g1] => { results := [.lit (.bool true)], args := [], vars := [g1] }
  | _ => none }
def fnExactStartExpansionRow : OpenClaim := { program := "ytjmfepncipfenaadoor", sum := "5e6e9522ecaccfa7c0e02e63c4ac192c0cc069b48c3e2af3d4f891e32ae05d45", func := "loop.example/macroexpander/laws.FnExactStartExpansion", spec := "fnExactStartExpansion", recurses := true, named := ["loop.example/macroexpander/impl.coreForms"], apart := false, laid := [("loop.example/macroexpander/impl.coreForms", laid_loop_example_macroexpander_impl_coreForms)] }
def FnExactStartExpansionSaid : Prop := fnExactStartExpansionRow.holds Tryd.pinned (OpenSpec.ofChange fnExactStartExpansionSpec)

/-- ITS FALSE NEIGHBOUR: 'it returns false'. Refute it at one input. -/
def fnExactStartExpansionWrong : ChangeSpec := { name := "fnExactStartExpansion", vars := ["loop.example/macroexpander/impl.coreForms"], fn := fun _ => fun
  | [g1] => { results := [.lit (.bool false)], args := [], vars := [g1] }
  | _ => none }
def FnExactStartExpansionWrongFalsely : Prop := fnExactStartExpansionRow.holds Tryd.pinned (OpenSpec.ofChange fnExactStartExpansionWrong)

/- THE SECOND FORM. 'bulk': how many values and letters a reading holds, each counted each time it is reached (what is shared counts as often as it is met; a slice's spare places count too). A statement '..UptoSaid' is the law's where the arguments, and the package variables that the reading takes, are together of bulk at most 1048576: NARROWER than '..Said'. Prove '..Said' where nothing that the law and all that it calls make is longer than what came in: it says more and counts as full. Else prove '..UptoSaid'. A law counts once. -/
mutual
def uptoBulk {H : Type} : DataW H → Nat
  | .lit (.string bytes) => bytes.length + 1
  | .lit _ => 1
  | .nil => 1
  | .ptr d => uptoBulk d + 1
  | .slice elems spare => uptoBulkAll elems + uptoBulkAll spare + 1
  | .agg parts => uptoBulkAll parts + 1
  | .iface _ d => uptoBulk d + 1
  | .map entries => uptoBulkEntries entries + 1
  | .held _ => 1
def uptoBulkAll {H : Type} : List (DataW H) → Nat
  | [] => 0
  | d :: r => uptoBulk d + uptoBulkAll r
def uptoBulkEntries {H : Type} : List (Lit × DataW H) → Nat
  | [] => 0
  | x :: r => uptoBulkEntry x + uptoBulkEntries r
def uptoBulkEntry {H : Type} : Lit × DataW H → Nat
  | (.string bytes, d) => bytes.length + uptoBulk d + 1
  | (_, d) => uptoBulk d + 1
 end
def uptoSmall : (H : Type) → List (DataW H) → Bool := fun _ ds => decide (uptoBulkAll ds ≤ 1048576)
def OpenSpec.upto (s : _root_.Go.ChangeSpec) : _root_.Go.OpenSpec := { _root_.Go.OpenSpec.ofChange s with cond := some uptoSmall }

/-- 'laws.FnExactStartExpansion', WHERE WHAT IT READS IS OF BULK AT MOST 1048576: true; the input reads as it did. -/
def fnExactStartExpansionUptoRow : OpenClaim := { program := "ytjmfepncipfenaadoor", sum := "5e6e9522ecaccfa7c0e02e63c4ac192c0cc069b48c3e2af3d4f891e32ae05d45", func := "loop.example/macroexpander/laws.FnExactStartExpansion", spec := "fnExactStartExpansion", recurses := true, named := ["loop.example/macroexpander/impl.coreForms"], apart := false, laid := [("loop.example/macroexpander/impl.coreForms", laid_loop_example_macroexpander_impl_coreForms)], narrowed := true }
def FnExactStartExpansionUptoSaid : Prop := fnExactStartExpansionUptoRow.holds Tryd.pinned (OpenSpec.upto fnExactStartExpansionSpec)

end Rows
end Go.Proofs.YtjmfepncipfenaaDoor
