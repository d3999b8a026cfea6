/-
  NARROWER THAN 'FOR EVERY INPUT', by the rows' own cells (each row's printed sentence says how): FnExactFirstRule: loops.
  DERIVED. THE GIVEN ROWS OF THIS SEAT. 10 by the template 'for every input the law returns true; each argument reads behind the call as it read before'; 0 by the template 'total and deterministic' (their statements: YtjjjnhpghhamkaaGreatTotals.lean).
  GIVEN WITH THE SEED: the statements are not yours to turn. If you find one false, say at which input.
  Laid BY PROGRAM, IN A SANDBOX (cutbox-rows.mjs): the forced cells as the released guide's own fill.sh prints them over the translation a87497647722b24b… (all of the seat's roots in one cut). By AI agents, Wed Nov 11 2026. No macro, syntax, notation, axiom, sorry.
-/
import Derived.Test.YtjjjnhpghhamkaaGreatChecked
import GoSem.Claim
import GoSem.ClaimJoined
import GoSem.ClaimMapViews
import Derived.JoinedTies
import Derived.KernelRfl
namespace Go.Proofs.YtjjjnhpghhamkaaGreat
/- THE CELL 'sum', in the pinned program and in every row, IS THE sha256 OF THE DUMP (.gsa) THAT YtjjjnhpghhamkaaGreatProg.lean LOADS. Nothing in Lean hashes anything: it is a label: what it is worth is what the hold of that sum in a sandbox is worth. -/
noncomputable def Tryz.pinned : Pinned := { name := "ytjjjnhpghhamkaagreat", sum := "a87497647722b24b99a6ea28f3f2b5f35c0cce678e727db7fc1507baa4bf7ad4", checked := Tryz.checked }
namespace Rows
def none {H : Type} : Left H := { results := [], args := [] }

/-- 'laws.FnMatchSelf': WHATEVER THE INPUT: true; the input reads as it did. -/
def fnMatchSelfSpec : ChangeSpec := { name := "fnMatchSelf", fn := fun _ => fun
  | [d] => { results := [.lit (.bool true)], args := [d] }
  | _ => none }
def fnMatchSelfRow : OpenClaim := { program := "ytjjjnhpghhamkaagreat", sum := "a87497647722b24b99a6ea28f3f2b5f35c0cce678e727db7fc1507baa4bf7ad4", func := "loop.example/macroexpander/laws.FnMatchSelf", spec := "fnMatchSelf", inPlace := ["internal/bytealg.IndexByteString"], unfollowed := true, recurses := true, apart := false }
def FnMatchSelfSaid : Prop := fnMatchSelfRow.holds Tryz.pinned (OpenSpec.ofChange fnMatchSelfSpec)

/-- ITS FALSE NEIGHBOUR: 'it returns false'. Refute it at one input. -/
def fnMatchSelfWrong : ChangeSpec := { name := "fnMatchSelf", fn := fun _ => fun
  | [d] => { results := [.lit (.bool false)], args := [d] }
  | _ => none }
def FnMatchSelfWrongFalsely : Prop := fnMatchSelfRow.holds Tryz.pinned (OpenSpec.ofChange fnMatchSelfWrong)

/-- 'laws.FnMatchSize': WHATEVER THE INPUT: true; the input reads as it did. -/
def fnMatchSizeSpec : ChangeSpec := { name := "fnMatchSize", fn := fun _ => fun
  | [d] => { results := [.lit (.bool true)], args := [d] }
  | _ => none }
def fnMatchSizeRow : OpenClaim := { program := "ytjjjnhpghhamkaagreat", sum := "a87497647722b24b99a6ea28f3f2b5f35c0cce678e727db7fc1507baa4bf7ad4", func := "loop.example/macroexpander/laws.FnMatchSize", spec := "fnMatchSize", inPlace := ["internal/bytealg.IndexByteString"], unfollowed := true, recurses := true, apart := false }
def FnMatchSizeSaid : Prop := fnMatchSizeRow.holds Tryz.pinned (OpenSpec.ofChange fnMatchSizeSpec)

/-- ITS FALSE NEIGHBOUR: 'it returns false'. Refute it at one input. -/
def fnMatchSizeWrong : ChangeSpec := { name := "fnMatchSize", fn := fun _ => fun
  | [d] => { results := [.lit (.bool false)], args := [d] }
  | _ => none }
def FnMatchSizeWrongFalsely : Prop := fnMatchSizeRow.holds Tryz.pinned (OpenSpec.ofChange fnMatchSizeWrong)

/-- 'laws.FnMatchPattern': WHATEVER THE INPUT: true; the input reads as it did. -/
def fnMatchPatternSpec : ChangeSpec := { name := "fnMatchPattern", fn := fun _ => fun
  | [d] => { results := [.lit (.bool true)], args := [d] }
  | _ => none }
def fnMatchPatternRow : OpenClaim := { program := "ytjjjnhpghhamkaagreat", sum := "a87497647722b24b99a6ea28f3f2b5f35c0cce678e727db7fc1507baa4bf7ad4", func := "loop.example/macroexpander/laws.FnMatchPattern", spec := "fnMatchPattern", inPlace := ["internal/bytealg.IndexByteString"], unfollowed := true, recurses := true, apart := false }
def FnMatchPatternSaid : Prop := fnMatchPatternRow.holds Tryz.pinned (OpenSpec.ofChange fnMatchPatternSpec)

/-- ITS FALSE NEIGHBOUR: 'it returns false'. Refute it at one input. -/
def fnMatchPatternWrong : ChangeSpec := { name := "fnMatchPattern", fn := fun _ => fun
  | [d] => { results := [.lit (.bool false)], args := [d] }
  | _ => none }
def FnMatchPatternWrongFalsely : Prop := fnMatchPatternRow.holds Tryz.pinned (OpenSpec.ofChange fnMatchPatternWrong)

/-- 'laws.FnMatchParts': WHATEVER THE INPUT: true; the input reads as it did. -/
def fnMatchPartsSpec : ChangeSpec := { name := "fnMatchParts", fn := fun _ => fun
  | [d] => { results := [.lit (.bool true)], args := [d] }
  | _ => none }
def fnMatchPartsRow : OpenClaim := { program := "ytjjjnhpghhamkaagreat", sum := "a87497647722b24b99a6ea28f3f2b5f35c0cce678e727db7fc1507baa4bf7ad4", func := "loop.example/macroexpander/laws.FnMatchParts", spec := "fnMatchParts", inPlace := ["internal/bytealg.IndexByteString"], unfollowed := true, recurses := true, apart := false }
def FnMatchPartsSaid : Prop := fnMatchPartsRow.holds Tryz.pinned (OpenSpec.ofChange fnMatchPartsSpec)

/-- ITS FALSE NEIGHBOUR: 'it returns false'. Refute it at one input. -/
def fnMatchPartsWrong : ChangeSpec := { name := "fnMatchParts", fn := fun _ => fun
  | [d] => { results := [.lit (.bool false)], args := [d] }
  | _ => none }
def FnMatchPartsWrongFalsely : Prop := fnMatchPartsRow.holds Tryz.pinned (OpenSpec.ofChange fnMatchPartsWrong)

/-- 'laws.FnMatchDress': WHATEVER THE INPUT: true; the input reads as it did. -/
def fnMatchDressSpec : ChangeSpec := { name := "fnMatchDress", fn := fun _ => fun
  | [d] => { results := [.lit (.bool true)], args := [d] }
  | _ => none }
def fnMatchDressRow : OpenClaim := { program := "ytjjjnhpghhamkaagreat", sum := "a87497647722b24b99a6ea28f3f2b5f35c0cce678e727db7fc1507baa4bf7ad4", func := "loop.example/macroexpander/laws.FnMatchDress", spec := "fnMatchDress", inPlace := ["internal/bytealg.IndexByteString", "slices.overlaps[int]"], unfollowed := true, recurses := true, apart := false }
def FnMatchDressSaid : Prop := fnMatchDressRow.holds Tryz.pinned (OpenSpec.ofChange fnMatchDressSpec)

/-- ITS FALSE NEIGHBOUR: 'it returns false'. Refute it at one input. -/
def fnMatchDressWrong : ChangeSpec := { name := "fnMatchDress", fn := fun _ => fun
  | [d] => { results := [.lit (.bool false)], args := [d] }
  | _ => none }
def FnMatchDressWrongFalsely : Prop := fnMatchDressRow.holds Tryz.pinned (OpenSpec.ofChange fnMatchDressWrong)

/-- 'laws.FnExactFirstRule': WHATEVER THE INPUT: true; the input reads as it did. -/
def fnExactFirstRuleSpec : ChangeSpec := { name := "fnExactFirstRule", fn := fun _ => fun
  | [d1, d2, d3, d4] => { results := [.lit (.bool true)], args := [d1, d2, d3, d4] }
  | _ => none }
def fnExactFirstRuleRow : OpenClaim := { program := "ytjjjnhpghhamkaagreat", sum := "a87497647722b24b99a6ea28f3f2b5f35c0cce678e727db7fc1507baa4bf7ad4", func := "loop.example/macroexpander/laws.FnExactFirstRule", spec := "fnExactFirstRule", inPlace := ["internal/bytealg.IndexByteString"], unfollowed := true, recurses := true, loops := true, apart := false }
def FnExactFirstRuleSaid : Prop := fnExactFirstRuleRow.holds Tryz.pinned (OpenSpec.ofChange fnExactFirstRuleSpec)

/-- ITS FALSE NEIGHBOUR: 'it returns false'. Refute it at one input. -/
def fnExactFirstRuleWrong : ChangeSpec := { name := "fnExactFirstRule", fn := fun _ => fun
  | [d1, d2, d3, d4] => { results := [.lit (.bool false)], args := [d1, d2, d3, d4] }
  | _ => none }
def FnExactFirstRuleWrongFalsely : Prop := fnExactFirstRuleRow.holds Tryz.pinned (OpenSpec.ofChange fnExactFirstRuleWrong)

/-- 'laws.FnFirstRule': WHATEVER THE INPUT: true; the input reads as it did. -/
def fnFirstRuleSpec : ChangeSpec := { name := "fnFirstRule", fn := fun _ => fun
  | [d] => { results := [.lit (.bool true)], args := [d] }
  | _ => none }
def fnFirstRuleRow : OpenClaim := { program := "ytjjjnhpghhamkaagreat", sum := "a87497647722b24b99a6ea28f3f2b5f35c0cce678e727db7fc1507baa4bf7ad4", func := "loop.example/macroexpander/laws.FnFirstRule", spec := "fnFirstRule", inPlace := ["internal/bytealg.IndexByteString"], unfollowed := true, recurses := true, apart := false }
def FnFirstRuleSaid : Prop := fnFirstRuleRow.holds Tryz.pinned (OpenSpec.ofChange fnFirstRuleSpec)

/-- ITS FALSE NEIGHBOUR: 'it returns false'. Refute it at one input. -/
def fnFirstRuleWrong : ChangeSpec := { name := "fnFirstRule", fn := fun _ => fun
  | [d] => { results := [.lit (.bool false)], args := [d] }
  | _ => none }
def FnFirstRuleWrongFalsely : Prop := fnFirstRuleRow.holds Tryz.pinned (OpenSpec.ofChange fnFirstRuleWrong)

/-- 'laws.FnDeadRules': WHATEVER THE INPUT: true; the input reads as it did. -/
def fnDeadRulesSpec : ChangeSpec := { name := "fnDeadRules", fn := fun _ => fun
  | [d1, d2] => { results := [.lit (.bool true)], args := [d1, d2] }
  | _ => none }
def fnDeadRulesRow : OpenClaim := { program := "ytjjjnhpghhamkaagreat", sum := "a87497647722b24b99a6ea28f3f2b5f35c0cce678e727db7fc1507baa4bf7ad4", func := "loop.example/macroexpander/laws.FnDeadRules", spec := "fnDeadRules", inPlace := ["internal/bytealg.IndexByteString"], unfollowed := true, recurses := true, apart := false }
def FnDeadRulesSaid : Prop := fnDeadRulesRow.holds Tryz.pinned (OpenSpec.ofChange fnDeadRulesSpec)

/-- ITS FALSE NEIGHBOUR: 'it returns false'. Refute it at one input. -/
def fnDeadRulesWrong : ChangeSpec := { name := "fnDeadRules", fn := fun _ => fun
  | [d1, d2] => { results := [.lit (.bool false)], args := [d1, d2] }
  | _ => none }
def FnDeadRulesWrongFalsely : Prop := fnDeadRulesRow.holds Tryz.pinned (OpenSpec.ofChange fnDeadRulesWrong)

/-- 'laws.FnFillTemplate': WHATEVER THE INPUT: true; the input reads as it did. -/
def fnFillTemplateSpec : ChangeSpec := { name := "fnFillTemplate", fn := fun _ => fun
  | [d] => { results := [.lit (.bool true)], args := [d] }
  | _ => none }
def fnFillTemplateRow : OpenClaim := { program := "ytjjjnhpghhamkaagreat", sum := "a87497647722b24b99a6ea28f3f2b5f35c0cce678e727db7fc1507baa4bf7ad4", func := "loop.example/macroexpander/laws.FnFillTemplate", spec := "fnFillTemplate", inPlace := ["internal/bytealg.IndexByteString"], unfollowed := true, recurses := true, apart := false }
def FnFillTemplateSaid : Prop := fnFillTemplateRow.holds Tryz.pinned (OpenSpec.ofChange fnFillTemplateSpec)

/-- ITS FALSE NEIGHBOUR: 'it returns false'. Refute it at one input. -/
def fnFillTemplateWrong : ChangeSpec := { name := "fnFillTemplate", fn := fun _ => fun
  | [d] => { results := [.lit (.bool false)], args := [d] }
  | _ => none }
def FnFillTemplateWrongFalsely : Prop := fnFillTemplateRow.holds Tryz.pinned (OpenSpec.ofChange fnFillTemplateWrong)

/-- 'laws.FnApplyRules': WHATEVER THE INPUT: true; the input reads as it did. -/
def fnApplyRulesSpec : ChangeSpec := { name := "fnApplyRules", fn := fun _ => fun
  | [d] => { results := [.lit (.bool true)], args := [d] }
  | _ => none }
def fnApplyRulesRow : OpenClaim := { program := "ytjjjnhpghhamkaagreat", sum := "a87497647722b24b99a6ea28f3f2b5f35c0cce678e727db7fc1507baa4bf7ad4", func := "loop.example/macroexpander/laws.FnApplyRules", spec := "fnApplyRules", inPlace := ["internal/bytealg.IndexByteString"], unfollowed := true, recurses := true, apart := false }
def FnApplyRulesSaid : Prop := fnApplyRulesRow.holds Tryz.pinned (OpenSpec.ofChange fnApplyRulesSpec)

/-- ITS FALSE NEIGHBOUR: 'it returns false'. Refute it at one input. -/
def fnApplyRulesWrong : ChangeSpec := { name := "fnApplyRules", fn := fun _ => fun
  | [d] => { results := [.lit (.bool false)], args := [d] }
  | _ => none }
def FnApplyRulesWrongFalsely : Prop := fnApplyRulesRow.holds Tryz.pinned (OpenSpec.ofChange fnApplyRulesWrong)

/- THE SECOND FORM. 'bulk': how many values and letters a reading holds, each counted each time it is reached (what is shared counts as often as it is met; a slice's spare places count too). A statement '..UptoSaid' is the law's where the arguments, and the package variables that the reading takes, are together of bulk at most 1048576: NARROWER than '..Said'. Prove '..Said' where nothing that the law and all that it calls make is longer than what came in: it says more and counts as full. Else prove '..UptoSaid'. A law counts once. -/
mutual
def uptoBulk {H : Type} : DataW H → Nat
  | .lit (.string bytes) => bytes.length + 1
  | .lit _ => 1
  | .nil => 1
  | .ptr d => uptoBulk d + 1
  | .slice elems spare => uptoBulkAll elems + uptoBulkAll spare + 1
  | .agg parts => uptoBulkAll parts + 1
  | .iface _ d => uptoBulk d + 1
  | .map entries => uptoBulkEntries entries + 1
  | .held _ => 1
def uptoBulkAll {H : Type} : List (DataW H) → Nat
  | [] => 0
  | d :: r => uptoBulk d + uptoBulkAll r
def uptoBulkEntries {H : Type} : List (Lit × DataW H) → Nat
  | [] => 0
  | x :: r => uptoBulkEntry x + uptoBulkEntries r
def uptoBulkEntry {H : Type} : Lit × DataW H → Nat
  | (.string bytes, d) => bytes.length + uptoBulk d + 1
  | (_, d) => uptoBulk d + 1
 end
def uptoSmall : (H : Type) → List (DataW H) → Bool := fun _ ds => decide (uptoBulkAll ds ≤ 1048576)
def OpenSpec.upto (s : _root_.Go.ChangeSpec) : _root_.Go.OpenSpec := { _root_.Go.OpenSpec.ofChange s with cond := some uptoSmall }

/-- 'laws.FnMatchSelf', WHERE WHAT IT READS IS OF BULK AT MOST 1048576: true; the input reads as it did. -/
def fnMatchSelfUptoRow : OpenClaim := { program := "ytjjjnhpghhamkaagreat", sum := "a87497647722b24b99a6ea28f3f2b5f35c0cce678e727db7fc1507baa4bf7ad4", func := "loop.example/macroexpander/laws.FnMatchSelf", spec := "fnMatchSelf", inPlace := ["internal/bytealg.IndexByteString"], unfollowed := true, recurses := true, apart := false, narrowed := true }
def FnMatchSelfUptoSaid : Prop := fnMatchSelfUptoRow.holds Tryz.pinned (OpenSpec.upto fnMatchSelfSpec)

/-- 'laws.FnMatchSize', WHERE WHAT IT READS IS OF BULK AT MOST 1048576: true; the input reads as it did. -/
def fnMatchSizeUptoRow : OpenClaim := { program := "ytjjjnhpghhamkaagreat", sum := "a87497647722b24b99a6ea28f3f2b5f35c0cce678e727db7fc1507baa4bf7ad4", func := "loop.example/macroexpander/laws.FnMatchSize", spec := "fnMatchSize", inPlace := ["internal/bytealg.IndexByteString"], unfollowed := true, recurses := true, apart := false, narrowed := true }
def FnMatchSizeUptoSaid : Prop := fnMatchSizeUptoRow.holds Tryz.pinned (OpenSpec.upto fnMatchSizeSpec)

/-- 'laws.FnMatchPattern', WHERE WHAT IT READS IS OF BULK AT MOST 1048576: true; the input reads as it did. -/
def fnMatchPatternUptoRow : OpenClaim := { program := "ytjjjnhpghhamkaagreat", sum := "a87497647722b24b99a6ea28f3f2b5f35c0cce678e727db7fc1507baa4bf7ad4", func := "loop.example/macroexpander/laws.FnMatchPattern", spec := "fnMatchPattern", inPlace := ["internal/bytealg.IndexByteString"], unfollowed := true, recurses := true, apart := false, narrowed := true }
def FnMatchPatternUptoSaid : Prop := fnMatchPatternUptoRow.holds Tryz.pinned (OpenSpec.upto fnMatchPatternSpec)

/-- 'laws.FnMatchParts', WHERE WHAT IT READS IS OF BULK AT MOST 1048576: true; the input reads as it did. -/
def fnMatchPartsUptoRow : OpenClaim := { program := "ytjjjnhpghhamkaagreat", sum := "a87497647722b24b99a6ea28f3f2b5f35c0cce678e727db7fc1507baa4bf7ad4", func := "loop.example/macroexpander/laws.FnMatchParts", spec := "fnMatchParts", inPlace := ["internal/bytealg.IndexByteString"], unfollowed := true, recurses := true, apart := false, narrowed := true }
def FnMatchPartsUptoSaid : Prop := fnMatchPartsUptoRow.holds Tryz.pinned (OpenSpec.upto fnMatchPartsSpec)

/-- 'laws.FnMatchDress', WHERE WHAT IT READS IS OF BULK AT MOST 1048576: true; the input reads as it did. -/
def fnMatchDressUptoRow : OpenClaim := { program := "ytjjjnhpghhamkaagreat", sum := "a87497647722b24b99a6ea28f3f2b5f35c0cce678e727db7fc1507baa4bf7ad4", func := "loop.example/macroexpander/laws.FnMatchDress", spec := "fnMatchDress", inPlace := ["internal/bytealg.IndexByteString", "slices.overlaps[int]"], unfollowed := true, recurses := true, apart := false, narrowed := true }
def FnMatchDressUptoSaid : Prop := fnMatchDressUptoRow.holds Tryz.pinned (OpenSpec.upto fnMatchDressSpec)

/-- 'laws.FnExactFirstRule', WHERE WHAT IT READS IS OF BULK AT MOST 1048576: true; the input reads as it did. -/
def fnExactFirstRuleUptoRow : OpenClaim := { program := "ytjjjnhpghhamkaagreat", sum := "a87497647722b24b99a6ea28f3f2b5f35c0cce678e727db7fc1507baa4bf7ad4", func := "loop.example/macroexpander/laws.FnExactFirstRule", spec := "fnExactFirstRule", inPlace := ["internal/bytealg.IndexByteString"], unfollowed := true, recurses := true, loops := true, apart := false, narrowed := true }
def FnExactFirstRuleUptoSaid : Prop := fnExactFirstRuleUptoRow.holds Tryz.pinned (OpenSpec.upto fnExactFirstRuleSpec)

/-- 'laws.FnFirstRule', WHERE WHAT IT READS IS OF BULK AT MOST 1048576: true; the input reads as it did. -/
def fnFirstRuleUptoRow : OpenClaim := { program := "ytjjjnhpghhamkaagreat", sum := "a87497647722b24b99a6ea28f3f2b5f35c0cce678e727db7fc1507baa4bf7ad4", func := "loop.example/macroexpander/laws.FnFirstRule", spec := "fnFirstRule", inPlace := ["internal/bytealg.IndexByteString"], unfollowed := true, recurses := true, apart := false, narrowed := true }
def FnFirstRuleUptoSaid : Prop := fnFirstRuleUptoRow.holds Tryz.pinned (OpenSpec.upto fnFirstRuleSpec)

/-- 'laws.FnDeadRules', WHERE WHAT IT READS IS OF BULK AT MOST 1048576: true; the input reads as it did. -/
def fnDeadRulesUptoRow : OpenClaim := { program := "ytjjjnhpghhamkaagreat", sum := "a87497647722b24b99a6ea28f3f2b5f35c0cce678e727db7fc1507baa4bf7ad4", func := "loop.example/macroexpander/laws.FnDeadRules", spec := "fnDeadRules", inPlace := ["internal/bytealg.IndexByteString"], unfollowed := true, recurses := true, apart := false, narrowed := true }
def FnDeadRulesUptoSaid : Prop := fnDeadRulesUptoRow.holds Tryz.pinned (OpenSpec.upto fnDeadRulesSpec)

/-- 'laws.FnFillTemplate', WHERE WHAT IT READS IS OF BULK AT MOST 1048576: true; the input reads as it did. -/
def fnFillTemplateUptoRow : OpenClaim := { program := "ytjjjnhpghhamkaagreat", sum := "a87497647722b24b99a6ea28f3f2b5f35c0cce678e727db7fc1507baa4bf7ad4", func := "loop.example/macroexpander/laws.FnFillTemplate", spec := "fnFillTemplate", inPlace := ["internal/bytealg.IndexByteString"], unfollowed := true, recurses := true, apart := false, narrowed := true }
def FnFillTemplateUptoSaid : Prop := fnFillTemplateUptoRow.holds Tryz.pinned (OpenSpec.upto fnFillTemplateSpec)

/-- 'laws.FnApplyRules', WHERE WHAT IT READS IS OF BULK AT MOST 1048576: true; the input reads as it did. -/
def fnApplyRulesUptoRow : OpenClaim := { program := "ytjjjnhpghhamkaagreat", sum := "a87497647722b24b99a6ea28f3f2b5f35c0cce678e727db7fc1507baa4bf7ad4", func := "loop.example/macroexpander/laws.FnApplyRules", spec := "fnApplyRules", inPlace := ["internal/bytealg.IndexByteString"], unfollowed := true, recurses := true, apart := false, narrowed := true }
def FnApplyRulesUptoSaid : Prop := fnApplyRulesUptoRow.holds Tryz.pinned (OpenSpec.upto fnApplyRulesSpec)

end Rows
end Go.Proofs.YtjjjnhpghhamkaaGreat
