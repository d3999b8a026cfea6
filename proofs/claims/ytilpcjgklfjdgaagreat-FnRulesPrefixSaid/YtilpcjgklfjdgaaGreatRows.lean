/-
  No cell of these rows narrows 'for every input' (looked for: loops, veiled, ifaces, maps, wideKeys, modest, calm, conditions, laid).
  DERIVED. THE GIVEN ROWS OF THIS SEAT. 5 by the template 'for every input the law returns true; each argument reads behind the call as it read before'; 0 by the template 'total and deterministic' (their statements: YtilpcjgklfjdgaaGreatTotals.lean).
  GIVEN WITH THE SEED: the statements are not yours to turn. If you find one false, say at which input.
  Laid BY PROGRAM, IN A SANDBOX (cutbox-rows.mjs): the forced cells as the released guide's own fill.sh prints them over the translation 1eae32a297ca65d1… (all of the seat's roots in one cut). By AI agents, Wed Nov 11 2026. No macro, syntax, notation, axiom, sorry.
-/
import Derived.Test.YtilpcjgklfjdgaaGreatChecked
import GoSem.Claim
import GoSem.ClaimJoined
import GoSem.ClaimMapViews
import Derived.JoinedTies
import Derived.KernelRfl
namespace Go.Proofs.YtilpcjgklfjdgaaGreat
/- THE CELL 'sum', in the pinned program and in every row, IS THE sha256 OF THE DUMP (.gsa) THAT YtilpcjgklfjdgaaGreatProg.lean LOADS. Nothing in Lean hashes anything: it is a label: what it is worth is what the hold of that sum in a sandbox is worth. -/
noncomputable def Tryz.pinned : Pinned := { name := "ytilpcjgklfjdgaagreat", sum := "1eae32a297ca65d1f9d16ceac0ec1bce27c72320b4de8f17e1d4d551b06bd9d5", checked := Tryz.checked }
namespace Rows
def none {H : Type} : Left H := { results := [], args := [] }

/-- 'laws.FnDeadTwice': WHATEVER THE INPUT: true; the input reads as it did. -/
def fnDeadTwiceSpec : ChangeSpec := { name := "fnDeadTwice", fn := fun _ => fun
  | [d1, d2] => { results := [.lit (.bool true)], args := [d1, d2] }
  | _ => none }
def fnDeadTwiceRow : OpenClaim := { program := "ytilpcjgklfjdgaagreat", sum := "1eae32a297ca65d1f9d16ceac0ec1bce27c72320b4de8f17e1d4d551b06bd9d5", func := "loop.example/macroexpander/laws.FnDeadTwice", spec := "fnDeadTwice", inPlace := ["internal/bytealg.IndexByteString"], unfollowed := true, recurses := true, apart := false }
def FnDeadTwiceSaid : Prop := fnDeadTwiceRow.holds Tryz.pinned (OpenSpec.ofChange fnDeadTwiceSpec)

/-- ITS FALSE NEIGHBOUR: 'it returns false'. Refute it at one input. -/
def fnDeadTwiceWrong : ChangeSpec := { name := "fnDeadTwice", fn := fun _ => fun
  | [d1, d2] => { results := [.lit (.bool false)], args := [d1, d2] }
  | _ => none }
def FnDeadTwiceWrongFalsely : Prop := fnDeadTwiceRow.holds Tryz.pinned (OpenSpec.ofChange fnDeadTwiceWrong)

/-- 'laws.FnFillVar': WHATEVER THE INPUT: true; the input reads as it did. -/
def fnFillVarSpec : ChangeSpec := { name := "fnFillVar", fn := fun _ => fun
  | [d] => { results := [.lit (.bool true)], args := [d] }
  | _ => none }
def fnFillVarRow : OpenClaim := { program := "ytilpcjgklfjdgaagreat", sum := "1eae32a297ca65d1f9d16ceac0ec1bce27c72320b4de8f17e1d4d551b06bd9d5", func := "loop.example/macroexpander/laws.FnFillVar", spec := "fnFillVar", inPlace := ["internal/bytealg.IndexByteString"], unfollowed := true, recurses := true, apart := false }
def FnFillVarSaid : Prop := fnFillVarRow.holds Tryz.pinned (OpenSpec.ofChange fnFillVarSpec)

/-- ITS FALSE NEIGHBOUR: 'it returns false'. Refute it at one input. -/
def fnFillVarWrong : ChangeSpec := { name := "fnFillVar", fn := fun _ => fun
  | [d] => { results := [.lit (.bool false)], args := [d] }
  | _ => none }
def FnFillVarWrongFalsely : Prop := fnFillVarRow.holds Tryz.pinned (OpenSpec.ofChange fnFillVarWrong)

/-- 'laws.FnFillSize': WHATEVER THE INPUT: true; the input reads as it did. -/
def fnFillSizeSpec : ChangeSpec := { name := "fnFillSize", fn := fun _ => fun
  | [d] => { results := [.lit (.bool true)], args := [d] }
  | _ => none }
def fnFillSizeRow : OpenClaim := { program := "ytilpcjgklfjdgaagreat", sum := "1eae32a297ca65d1f9d16ceac0ec1bce27c72320b4de8f17e1d4d551b06bd9d5", func := "loop.example/macroexpander/laws.FnFillSize", spec := "fnFillSize", inPlace := ["internal/bytealg.IndexByteString"], unfollowed := true, recurses := true, apart := false }
def FnFillSizeSaid : Prop := fnFillSizeRow.holds Tryz.pinned (OpenSpec.ofChange fnFillSizeSpec)

/-- ITS FALSE NEIGHBOUR: 'it returns false'. Refute it at one input. -/
def fnFillSizeWrong : ChangeSpec := { name := "fnFillSize", fn := fun _ => fun
  | [d] => { results := [.lit (.bool false)], args := [d] }
  | _ => none }
def FnFillSizeWrongFalsely : Prop := fnFillSizeRow.holds Tryz.pinned (OpenSpec.ofChange fnFillSizeWrong)

/-- 'laws.FnRulesPrefix': WHATEVER THE INPUT: true; the input reads as it did. -/
def fnRulesPrefixSpec : ChangeSpec := { name := "fnRulesPrefix", fn := fun _ => fun
  | [d] => { results := [.lit (.bool true)], args := [d] }
  | _ => none }
def fnRulesPrefixRow : OpenClaim := { program := "ytilpcjgklfjdgaagreat", sum := "1eae32a297ca65d1f9d16ceac0ec1bce27c72320b4de8f17e1d4d551b06bd9d5", func := "loop.example/macroexpander/laws.FnRulesPrefix", spec := "fnRulesPrefix", inPlace := ["internal/bytealg.IndexByteString"], unfollowed := true, recurses := true, apart := false }
def FnRulesPrefixSaid : Prop := fnRulesPrefixRow.holds Tryz.pinned (OpenSpec.ofChange fnRulesPrefixSpec)

/-- ITS FALSE NEIGHBOUR: 'it returns false'. Refute it at one input. -/
def fnRulesPrefixWrong : ChangeSpec := { name := "fnRulesPrefix", fn := fun _ => fun
  | [d] => { results := [.lit (.bool false)], args := [d] }
  | _ => none }
def FnRulesPrefixWrongFalsely : Prop := fnRulesPrefixRow.holds Tryz.pinned (OpenSpec.ofChange fnRulesPrefixWrong)

/-- 'laws.FnFillScope': WHATEVER THE INPUT: true; the input reads as it did. -/
def fnFillScopeSpec : ChangeSpec := { name := "fnFillScope", fn := fun _ => fun
  | [d] => { results := [.lit (.bool true)], args := [d] }
  | _ => none }
def fnFillScopeRow : OpenClaim := { program := "ytilpcjgklfjdgaagreat", sum := "1eae32a297ca65d1f9d16ceac0ec1bce27c72320b4de8f17e1d4d551b06bd9d5", func := "loop.example/macroexpander/laws.FnFillScope", spec := "fnFillScope", inPlace := ["internal/bytealg.IndexByteString", "slices.overlaps[int]"], unfollowed := true, recurses := true, apart := false }
def FnFillScopeSaid : Prop := fnFillScopeRow.holds Tryz.pinned (OpenSpec.ofChange fnFillScopeSpec)

/-- ITS FALSE NEIGHBOUR: 'it returns false'. Refute it at one input. -/
def fnFillScopeWrong : ChangeSpec := { name := "fnFillScope", fn := fun _ => fun
  | [d] => { results := [.lit (.bool false)], args := [d] }
  | _ => none }
def FnFillScopeWrongFalsely : Prop := fnFillScopeRow.holds Tryz.pinned (OpenSpec.ofChange fnFillScopeWrong)

/- THE SECOND FORM. 'bulk': how many values and letters a reading holds, each counted each time it is reached (what is shared counts as often as it is met; a slice's spare places count too). A statement '..UptoSaid' is the law's where the arguments, and the package variables that the reading takes, are together of bulk at most 1048576: NARROWER than '..Said'. Prove '..Said' where nothing that the law and all that it calls make is longer than what came in: it says more and counts as full. Else prove '..UptoSaid'. A law counts once. -/
mutual
def uptoBulk {H : Type} : DataW H → Nat
  | .lit (.string bytes) => bytes.length + 1
  | .lit _ => 1
  | .nil => 1
  | .ptr d => uptoBulk d + 1
  | .slice elems spare => uptoBulkAll elems + uptoBulkAll spare + 1
  | .agg parts => uptoBulkAll parts + 1
  | .iface _ d => uptoBulk d + 1
  | .map entries => uptoBulkEntries entries + 1
  | .held _ => 1
def uptoBulkAll {H : Type} : List (DataW H) → Nat
  | [] => 0
  | d :: r => uptoBulk d + uptoBulkAll r
def uptoBulkEntries {H : Type} : List (Lit × DataW H) → Nat
  | [] => 0
  | x :: r => uptoBulkEntry x + uptoBulkEntries r
def uptoBulkEntry {H : Type} : Lit × DataW H → Nat
  | (.string bytes, d) => bytes.length + uptoBulk d + 1
  | (_, d) => uptoBulk d + 1
 end
def uptoSmall : (H : Type) → List (DataW H) → Bool := fun _ ds => decide (uptoBulkAll ds ≤ 1048576)
def OpenSpec.upto (s : _root_.Go.ChangeSpec) : _root_.Go.OpenSpec := { _root_.Go.OpenSpec.ofChange s with cond := some uptoSmall }

/-- 'laws.FnDeadTwice', WHERE WHAT IT READS IS OF BULK AT MOST 1048576: true; the input reads as it did. -/
def fnDeadTwiceUptoRow : OpenClaim := { program := "ytilpcjgklfjdgaagreat", sum := "1eae32a297ca65d1f9d16ceac0ec1bce27c72320b4de8f17e1d4d551b06bd9d5", func := "loop.example/macroexpander/laws.FnDeadTwice", spec := "fnDeadTwice", inPlace := ["internal/bytealg.IndexByteString"], unfollowed := true, recurses := true, apart := false, narrowed := true }
def FnDeadTwiceUptoSaid : Prop := fnDeadTwiceUptoRow.holds Tryz.pinned (OpenSpec.upto fnDeadTwiceSpec)

/-- 'laws.FnFillVar', WHERE WHAT IT READS IS OF BULK AT MOST 1048576: true; the input reads as it did. -/
def fnFillVarUptoRow : OpenClaim := { program := "ytilpcjgklfjdgaagreat", sum := "1eae32a297ca65d1f9d16ceac0ec1bce27c72320b4de8f17e1d4d551b06bd9d5", func := "loop.example/macroexpander/laws.FnFillVar", spec := "fnFillVar", inPlace := ["internal/bytealg.IndexByteString"], unfollowed := true, recurses := true, apart := false, narrowed := true }
def FnFillVarUptoSaid : Prop := fnFillVarUptoRow.holds Tryz.pinned (OpenSpec.upto fnFillVarSpec)

/-- 'laws.FnFillSize', WHERE WHAT IT READS IS OF BULK AT MOST 1048576: true; the input reads as it did. -/
def fnFillSizeUptoRow : OpenClaim := { program := "ytilpcjgklfjdgaagreat", sum := "1eae32a297ca65d1f9d16ceac0ec1bce27c72320b4de8f17e1d4d551b06bd9d5", func := "loop.example/macroexpander/laws.FnFillSize", spec := "fnFillSize", inPlace := ["internal/bytealg.IndexByteString"], unfollowed := true, recurses := true, apart := false, narrowed := true }
def FnFillSizeUptoSaid : Prop := fnFillSizeUptoRow.holds Tryz.pinned (OpenSpec.upto fnFillSizeSpec)

/-- 'laws.FnRulesPrefix', WHERE WHAT IT READS IS OF BULK AT MOST 1048576: true; the input reads as it did. -/
def fnRulesPrefixUptoRow : OpenClaim := { program := "ytilpcjgklfjdgaagreat", sum := "1eae32a297ca65d1f9d16ceac0ec1bce27c72320b4de8f17e1d4d551b06bd9d5", func := "loop.example/macroexpander/laws.FnRulesPrefix", spec := "fnRulesPrefix", inPlace := ["internal/bytealg.IndexByteString"], unfollowed := true, recurses := true, apart := false, narrowed := true }
def FnRulesPrefixUptoSaid : Prop := fnRulesPrefixUptoRow.holds Tryz.pinned (OpenSpec.upto fnRulesPrefixSpec)

/-- 'laws.FnFillScope', WHERE WHAT IT READS IS OF BULK AT MOST 1048576: true; the input reads as it did. -/
def fnFillScopeUptoRow : OpenClaim := { program := "ytilpcjgklfjdgaagreat", sum := "1eae32a297ca65d1f9d16ceac0ec1bce27c72320b4de8f17e1d4d551b06bd9d5", func := "loop.example/macroexpander/laws.FnFillScope", spec := "fnFillScope", inPlace := ["internal/bytealg.IndexByteString", "slices.overlaps[int]"], unfollowed := true, recurses := true, apart := false, narrowed := true }
def FnFillScopeUptoSaid : Prop := fnFillScopeUptoRow.holds Tryz.pinned (OpenSpec.upto fnFillScopeSpec)

end Rows
end Go.Proofs.YtilpcjgklfjdgaaGreat
