/-
  No cell of these rows narrows 'for every input' (looked for: loops, veiled, ifaces, maps, wideKeys, modest, calm, conditions, laid).
  DERIVED. THE GIVEN ROWS OF THIS SEAT. 2 by the template 'for every input the law returns true; each argument reads behind the call as it read before'; 0 by the template 'total and deterministic' (their statements: YtjjjnhpghhamkaaTotals.lean).
  GIVEN WITH THE SEED: the statements are not yours to turn. If you find one false, say at which input.
  Laid BY PROGRAM, IN A SANDBOX (cutbox-rows.mjs): the forced cells as the released guide's own fill.sh prints them over the translation 4305fdd8c0f507ff… (all of the seat's roots in one cut). By AI agents, Wed Nov 11 2026. No macro, syntax, notation, axiom, sorry.
-/
import Derived.Test.YtjjjnhpghhamkaaChecked
import GoSem.Claim
import GoSem.ClaimJoined
import GoSem.ClaimMapViews
import Derived.JoinedTies
import Derived.KernelRfl
namespace Go.Proofs.Ytjjjnhpghhamkaa
/- THE CELL 'sum', in the pinned program and in every row, IS THE sha256 OF THE DUMP (.gsa) THAT YtjjjnhpghhamkaaProg.lean LOADS. Nothing in Lean hashes anything: it is a label: what it is worth is what the hold of that sum in a sandbox is worth. -/
noncomputable def Try.pinned : Pinned := { name := "ytjjjnhpghhamkaa", sum := "4305fdd8c0f507ffff14548f10831522fb503cdedb36b3bab23d13a1342ef9fa", checked := Try.checked }
namespace Rows
def none {H : Type} : Left H := { results := [], args := [] }

/-- 'laws.FnMatchLiteral': WHATEVER THE INPUT: true; the input reads as it did. -/
def fnMatchLiteralSpec : ChangeSpec := { name := "fnMatchLiteral", fn := fun _ => fun
  | [d] => { results := [.lit (.bool true)], args := [d] }
  | _ => none }
def fnMatchLiteralRow : OpenClaim := { program := "ytjjjnhpghhamkaa", sum := "4305fdd8c0f507ffff14548f10831522fb503cdedb36b3bab23d13a1342ef9fa", func := "loop.example/macroexpander/laws.FnMatchLiteral", spec := "fnMatchLiteral", inPlace := ["internal/bytealg.IndexByteString"], unfollowed := true, recurses := true, apart := false }
def FnMatchLiteralSaid : Prop := fnMatchLiteralRow.holds Try.pinned (OpenSpec.ofChange fnMatchLiteralSpec)

/-- ITS FALSE NEIGHBOUR: 'it returns false'. Refute it at one input. -/
def fnMatchLiteralWrong : ChangeSpec := { name := "fnMatchLiteral", fn := fun _ => fun
  | [d] => { results := [.lit (.bool false)], args := [d] }
  | _ => none }
def FnMatchLiteralWrongFalsely : Prop := fnMatchLiteralRow.holds Try.pinned (OpenSpec.ofChange fnMatchLiteralWrong)

/-- 'laws.FnParseRules': WHATEVER THE INPUT: true; the input reads as it did. -/
def fnParseRulesSpec : ChangeSpec := { name := "fnParseRules", fn := fun _ => fun
  | [d] => { results := [.lit (.bool true)], args := [d] }
  | _ => none }
def fnParseRulesRow : OpenClaim := { program := "ytjjjnhpghhamkaa", sum := "4305fdd8c0f507ffff14548f10831522fb503cdedb36b3bab23d13a1342ef9fa", func := "loop.example/macroexpander/laws.FnParseRules", spec := "fnParseRules", inPlace := ["internal/bytealg.IndexByteString"], unfollowed := true, recurses := true, apart := false }
def FnParseRulesSaid : Prop := fnParseRulesRow.holds Try.pinned (OpenSpec.ofChange fnParseRulesSpec)

/-- ITS FALSE NEIGHBOUR: 'it returns false'. Refute it at one input. -/
def fnParseRulesWrong : ChangeSpec := { name := "fnParseRules", fn := fun _ => fun
  | [d] => { results := [.lit (.bool false)], args := [d] }
  | _ => none }
def FnParseRulesWrongFalsely : Prop := fnParseRulesRow.holds Try.pinned (OpenSpec.ofChange fnParseRulesWrong)

/- THE SECOND FORM. 'bulk': how many values and letters a reading holds, each counted each time it is reached (what is shared counts as often as it is met; a slice's spare places count too). A statement '..UptoSaid' is the law's where the arguments, and the package variables that the reading takes, are together of bulk at most 1048576: NARROWER than '..Said'. Prove '..Said' where nothing that the law and all that it calls make is longer than what came in: it says more and counts as full. Else prove '..UptoSaid'. A law counts once. -/
mutual
def uptoBulk {H : Type} : DataW H → Nat
  | .lit (.string bytes) => bytes.length + 1
  | .lit _ => 1
  | .nil => 1
  | .ptr d => uptoBulk d + 1
  | .slice elems spare => uptoBulkAll elems + uptoBulkAll spare + 1
  | .agg parts => uptoBulkAll parts + 1
  | .iface _ d => uptoBulk d + 1
  | .map entries => uptoBulkEntries entries + 1
  | .held _ => 1
def uptoBulkAll {H : Type} : List (DataW H) → Nat
  | [] => 0
  | d :: r => uptoBulk d + uptoBulkAll r
def uptoBulkEntries {H : Type} : List (Lit × DataW H) → Nat
  | [] => 0
  | x :: r => uptoBulkEntry x + uptoBulkEntries r
def uptoBulkEntry {H : Type} : Lit × DataW H → Nat
  | (.string bytes, d) => bytes.length + uptoBulk d + 1
  | (_, d) => uptoBulk d + 1
 end
def uptoSmall : (H : Type) → List (DataW H) → Bool := fun _ ds => decide (uptoBulkAll ds ≤ 1048576)
def OpenSpec.upto (s : _root_.Go.ChangeSpec) : _root_.Go.OpenSpec := { _root_.Go.OpenSpec.ofChange s with cond := some uptoSmall }

/-- 'laws.FnMatchLiteral', WHERE WHAT IT READS IS OF BULK AT MOST 1048576: true; the input reads as it did. -/
def fnMatchLiteralUptoRow : OpenClaim := { program := "ytjjjnhpghhamkaa", sum := "4305fdd8c0f507ffff14548f10831522fb503cdedb36b3bab23d13a1342ef9fa", func := "loop.example/macroexpander/laws.FnMatchLiteral", spec := "fnMatchLiteral", inPlace := ["internal/bytealg.IndexByteString"], unfollowed := true, recurses := true, apart := false, narrowed := true }
def FnMatchLiteralUptoSaid : Prop := fnMatchLiteralUptoRow.holds Try.pinned (OpenSpec.upto fnMatchLiteralSpec)

/-- 'laws.FnParseRules', WHERE WHAT IT READS IS OF BULK AT MOST 1048576: true; the input reads as it did. -/
def fnParseRulesUptoRow : OpenClaim := { program := "ytjjjnhpghhamkaa", sum := "4305fdd8c0f507ffff14548f10831522fb503cdedb36b3bab23d13a1342ef9fa", func := "loop.example/macroexpander/laws.FnParseRules", spec := "fnParseRules", inPlace := ["internal/bytealg.IndexByteString"], unfollowed := true, recurses := true, apart := false, narrowed := true }
def FnParseRulesUptoSaid : Prop := fnParseRulesUptoRow.holds Try.pinned (OpenSpec.upto fnParseRulesSpec)

end Rows
end Go.Proofs.Ytjjjnhpghhamkaa
