/-
  NARROWER THAN 'FOR EVERY INPUT', by the rows' own cells (each row's printed sentence says how): FnExactFreeOf: loops · FnExactDeadRules: loops · FnExactHitForms: loops · FnExactPatternVars: loops · FnExactFindHit: loops · FnExactNumberCore: loops · FnExactParseRules: loops · FnExactFillTemplate: loops.
  DERIVED. THE GIVEN ROWS OF THIS SEAT. 8 by the template 'for every input the law returns true; each argument reads behind the call as it read before'; 0 by the template 'total and deterministic' (their statements: YtbkdbbfgdjcfgaaTotals.lean).
  GIVEN WITH THE SEED: the statements are not yours to turn. If you find one false, say at which input.
  Laid BY PROGRAM, IN A SANDBOX (cutbox-rows.mjs): the forced cells as the released guide's own fill.sh prints them over the translation ca4976e0b038f5b6… (all of the seat's roots in one cut). By AI agents, Wed Nov 11 2026. No macro, syntax, notation, axiom, sorry.
-/
import Derived.Test.YtbkdbbfgdjcfgaaChecked
import GoSem.Claim
import GoSem.ClaimJoined
import GoSem.ClaimMapViews
import Derived.JoinedTies
import Derived.KernelRfl
namespace Go.Proofs.Ytbkdbbfgdjcfgaa
/- THE CELL 'sum', in the pinned program and in every row, IS THE sha256 OF THE DUMP (.gsa) THAT YtbkdbbfgdjcfgaaProg.lean LOADS. Nothing in Lean hashes anything: it is a label: what it is worth is what the hold of that sum in a sandbox is worth. -/
noncomputable def Try.pinned : Pinned := { name := "ytbkdbbfgdjcfgaa", sum := "ca4976e0b038f5b657042897557e3d6dacd6fd13369bd77167a5fbeb009b5949", checked := Try.checked }
namespace Rows
def none {H : Type} : Left H := { results := [], args := [] }

/-- 'laws.FnExactFreeOf': WHATEVER THE INPUT: true; the input reads as it did. -/
def fnExactFreeOfSpec : ChangeSpec := { name := "fnExactFreeOf", fn := fun _ => fun
  | [d] => { results := [.lit (.bool true)], args := [d] }
  | _ => none }
def fnExactFreeOfRow : OpenClaim := { program := "ytbkdbbfgdjcfgaa", sum := "ca4976e0b038f5b657042897557e3d6dacd6fd13369bd77167a5fbeb009b5949", func := "loop.example/macroexpander/laws.FnExactFreeOf", spec := "fnExactFreeOf", recurses := true, loops := true, apart := false }
def FnExactFreeOfSaid : Prop := fnExactFreeOfRow.holds Try.pinned (OpenSpec.ofChange fnExactFreeOfSpec)

/-- ITS FALSE NEIGHBOUR: 'it returns false'. Refute it at one input. -/
def fnExactFreeOfWrong : ChangeSpec := { name := "fnExactFreeOf", fn := fun _ => fun
  | [d] => { results := [.lit (.bool false)], args := [d] }
  | _ => none }
def FnExactFreeOfWrongFalsely : Prop := fnExactFreeOfRow.holds Try.pinned (OpenSpec.ofChange fnExactFreeOfWrong)

/-- 'laws.FnExactDeadRules': WHATEVER THE INPUT: true; the input reads as it did. -/
def fnExactDeadRulesSpec : ChangeSpec := { name := "fnExactDeadRules", fn := fun _ => fun
  | [d1, d2] => { results := [.lit (.bool true)], args := [d1, d2] }
  | _ => none }
def fnExactDeadRulesRow : OpenClaim := { program := "ytbkdbbfgdjcfgaa", sum := "ca4976e0b038f5b657042897557e3d6dacd6fd13369bd77167a5fbeb009b5949", func := "loop.example/macroexpander/laws.FnExactDeadRules", spec := "fnExactDeadRules", inPlace := ["internal/bytealg.IndexByteString"], unfollowed := true, recurses := true, loops := true, apart := false }
def FnExactDeadRulesSaid : Prop := fnExactDeadRulesRow.holds Try.pinned (OpenSpec.ofChange fnExactDeadRulesSpec)

/-- ITS FALSE NEIGHBOUR: 'it returns false'. Refute it at one input. -/
def fnExactDeadRulesWrong : ChangeSpec := { name := "fnExactDeadRules", fn := fun _ => fun
  | [d1, d2] => { results := [.lit (.bool false)], args := [d1, d2] }
  | _ => none }
def FnExactDeadRulesWrongFalsely : Prop := fnExactDeadRulesRow.holds Try.pinned (OpenSpec.ofChange fnExactDeadRulesWrong)

/-- 'laws.FnExactHitForms': WHATEVER THE INPUT: true; the input reads as it did. -/
def fnExactHitFormsSpec : ChangeSpec := { name := "fnExactHitForms", fn := fun _ => fun
  | [d] => { results := [.lit (.bool true)], args := [d] }
  | _ => none }
def fnExactHitFormsRow : OpenClaim := { program := "ytbkdbbfgdjcfgaa", sum := "ca4976e0b038f5b657042897557e3d6dacd6fd13369bd77167a5fbeb009b5949", func := "loop.example/macroexpander/laws.FnExactHitForms", spec := "fnExactHitForms", inPlace := ["internal/bytealg.IndexByteString"], unfollowed := true, recurses := true, loops := true, apart := false }
def FnExactHitFormsSaid : Prop := fnExactHitFormsRow.holds Try.pinned (OpenSpec.ofChange fnExactHitFormsSpec)

/-- ITS FALSE NEIGHBOUR: 'it returns false'. Refute it at one input. -/
def fnExactHitFormsWrong : ChangeSpec := { name := "fnExactHitForms", fn := fun _ => fun
  | [d] => { results := [.lit (.bool false)], args := [d] }
  | _ => none }
def FnExactHitFormsWrongFalsely : Prop := fnExactHitFormsRow.holds Try.pinned (OpenSpec.ofChange fnExactHitFormsWrong)

/-- 'laws.FnExactPatternVars': WHATEVER THE INPUT: true; the input reads as it did. -/
def fnExactPatternVarsSpec : ChangeSpec := { name := "fnExactPatternVars", fn := fun _ => fun
  | [d1, d2] => { results := [.lit (.bool true)], args := [d1, d2] }
  | _ => none }
def fnExactPatternVarsRow : OpenClaim := { program := "ytbkdbbfgdjcfgaa", sum := "ca4976e0b038f5b657042897557e3d6dacd6fd13369bd77167a5fbeb009b5949", func := "loop.example/macroexpander/laws.FnExactPatternVars", spec := "fnExactPatternVars", inPlace := ["internal/bytealg.IndexByteString"], unfollowed := true, recurses := true, loops := true, apart := false }
def FnExactPatternVarsSaid : Prop := fnExactPatternVarsRow.holds Try.pinned (OpenSpec.ofChange fnExactPatternVarsSpec)

/-- ITS FALSE NEIGHBOUR: 'it returns false'. Refute it at one input. -/
def fnExactPatternVarsWrong : ChangeSpec := { name := "fnExactPatternVars", fn := fun _ => fun
  | [d1, d2] => { results := [.lit (.bool false)], args := [d1, d2] }
  | _ => none }
def FnExactPatternVarsWrongFalsely : Prop := fnExactPatternVarsRow.holds Try.pinned (OpenSpec.ofChange fnExactPatternVarsWrong)

/-- 'laws.FnExactFindHit': WHATEVER THE INPUT: true; the input reads as it did. -/
def fnExactFindHitSpec : ChangeSpec := { name := "fnExactFindHit", fn := fun _ => fun
  | [d1, d2] => { results := [.lit (.bool true)], args := [d1, d2] }
  | _ => none }
def fnExactFindHitRow : OpenClaim := { program := "ytbkdbbfgdjcfgaa", sum := "ca4976e0b038f5b657042897557e3d6dacd6fd13369bd77167a5fbeb009b5949", func := "loop.example/macroexpander/laws.FnExactFindHit", spec := "fnExactFindHit", inPlace := ["internal/bytealg.IndexByteString"], unfollowed := true, recurses := true, loops := true, apart := false }
def FnExactFindHitSaid : Prop := fnExactFindHitRow.holds Try.pinned (OpenSpec.ofChange fnExactFindHitSpec)

/-- ITS FALSE NEIGHBOUR: 'it returns false'. Refute it at one input. -/
def fnExactFindHitWrong : ChangeSpec := { name := "fnExactFindHit", fn := fun _ => fun
  | [d1, d2] => { results := [.lit (.bool false)], args := [d1, d2] }
  | _ => none }
def FnExactFindHitWrongFalsely : Prop := fnExactFindHitRow.holds Try.pinned (OpenSpec.ofChange fnExactFindHitWrong)

/-- 'laws.FnExactNumberCore': WHATEVER THE INPUT: true; the input reads as it did. -/
def fnExactNumberCoreSpec : ChangeSpec := { name := "fnExactNumberCore", fn := fun _ => fun
  | [d] => { results := [.lit (.bool true)], args := [d] }
  | _ => none }
def fnExactNumberCoreRow : OpenClaim := { program := "ytbkdbbfgdjcfgaa", sum := "ca4976e0b038f5b657042897557e3d6dacd6fd13369bd77167a5fbeb009b5949", func := "loop.example/macroexpander/laws.FnExactNumberCore", spec := "fnExactNumberCore", inPlace := ["internal/bytealg.IndexByteString"], unfollowed := true, recurses := true, loops := true, apart := false }
def FnExactNumberCoreSaid : Prop := fnExactNumberCoreRow.holds Try.pinned (OpenSpec.ofChange fnExactNumberCoreSpec)

/-- ITS FALSE NEIGHBOUR: 'it returns false'. Refute it at one input. -/
def fnExactNumberCoreWrong : ChangeSpec := { name := "fnExactNumberCore", fn := fun _ => fun
  | [d] => { results := [.lit (.bool false)], args := [d] }
  | _ => none }
def FnExactNumberCoreWrongFalsely : Prop := fnExactNumberCoreRow.holds Try.pinned (OpenSpec.ofChange fnExactNumberCoreWrong)

/-- 'laws.FnExactParseRules': WHATEVER THE INPUT: true; the input reads as it did. -/
def fnExactParseRulesSpec : ChangeSpec := { name := "fnExactParseRules", fn := fun _ => fun
  | [d] => { results := [.lit (.bool true)], args := [d] }
  | _ => none }
def fnExactParseRulesRow : OpenClaim := { program := "ytbkdbbfgdjcfgaa", sum := "ca4976e0b038f5b657042897557e3d6dacd6fd13369bd77167a5fbeb009b5949", func := "loop.example/macroexpander/laws.FnExactParseRules", spec := "fnExactParseRules", inPlace := ["internal/bytealg.IndexByteString"], unfollowed := true, recurses := true, loops := true, apart := false }
def FnExactParseRulesSaid : Prop := fnExactParseRulesRow.holds Try.pinned (OpenSpec.ofChange fnExactParseRulesSpec)

/-- ITS FALSE NEIGHBOUR: 'it returns false'. Refute it at one input. -/
def fnExactParseRulesWrong : ChangeSpec := { name := "fnExactParseRules", fn := fun _ => fun
  | [d] => { results := [.lit (.bool false)], args := [d] }
  | _ => none }
def FnExactParseRulesWrongFalsely : Prop := fnExactParseRulesRow.holds Try.pinned (OpenSpec.ofChange fnExactParseRulesWrong)

/-- 'laws.FnExactFillTemplate': WHATEVER THE INPUT: true; the input reads as it did. -/
def fnExactFillTemplateSpec : ChangeSpec := { name := "fnExactFillTemplate", fn := fun _ => fun
  | [d1, d2] => { results := [.lit (.bool true)], args := [d1, d2] }
  | _ => none }
def fnExactFillTemplateRow : OpenClaim := { program := "ytbkdbbfgdjcfgaa", sum := "ca4976e0b038f5b657042897557e3d6dacd6fd13369bd77167a5fbeb009b5949", func := "loop.example/macroexpander/laws.FnExactFillTemplate", spec := "fnExactFillTemplate", inPlace := ["internal/bytealg.IndexByteString"], unfollowed := true, recurses := true, loops := true, apart := false }
def FnExactFillTemplateSaid : Prop := fnExactFillTemplateRow.holds Try.pinned (OpenSpec.ofChange fnExactFillTemplateSpec)

/-- ITS FALSE NEIGHBOUR: 'it returns false'. Refute it at one input. -/
def fnExactFillTemplateWrong : ChangeSpec := { name := "fnExactFillTemplate", fn := fun _ => fun
  | [d1, d2] => { results := [.lit (.bool false)], args := [d1, d2] }
  | _ => none }
def FnExactFillTemplateWrongFalsely : Prop := fnExactFillTemplateRow.holds Try.pinned (OpenSpec.ofChange fnExactFillTemplateWrong)

/- THE SECOND FORM. 'bulk': how many values and letters a reading holds, each counted each time it is reached (what is shared counts as often as it is met; a slice's spare places count too). A statement '..UptoSaid' is the law's where the arguments, and the package variables that the reading takes, are together of bulk at most 1048576: NARROWER than '..Said'. Prove '..Said' where nothing that the law and all that it calls make is longer than what came in: it says more and counts as full. Else prove '..UptoSaid'. A law counts once. -/
mutual
def uptoBulk {H : Type} : DataW H → Nat
  | .lit (.string bytes) => bytes.length + 1
  | .lit _ => 1
  | .nil => 1
  | .ptr d => uptoBulk d + 1
  | .slice elems spare => uptoBulkAll elems + uptoBulkAll spare + 1
  | .agg parts => uptoBulkAll parts + 1
  | .iface _ d => uptoBulk d + 1
  | .map entries => uptoBulkEntries entries + 1
  | .held _ => 1
def uptoBulkAll {H : Type} : List (DataW H) → Nat
  | [] => 0
  | d :: r => uptoBulk d + uptoBulkAll r
def uptoBulkEntries {H : Type} : List (Lit × DataW H) → Nat
  | [] => 0
  | x :: r => uptoBulkEntry x + uptoBulkEntries r
def uptoBulkEntry {H : Type} : Lit × DataW H → Nat
  | (.string bytes, d) => bytes.length + uptoBulk d + 1
  | (_, d) => uptoBulk d + 1
 end
def uptoSmall : (H : Type) → List (DataW H) → Bool := fun _ ds => decide (uptoBulkAll ds ≤ 1048576)
def OpenSpec.upto (s : _root_.Go.ChangeSpec) : _root_.Go.OpenSpec := { _root_.Go.OpenSpec.ofChange s with cond := some uptoSmall }

/-- 'laws.FnExactFreeOf', WHERE WHAT IT READS IS OF BULK AT MOST 1048576: true; the input reads as it did. -/
def fnExactFreeOfUptoRow : OpenClaim := { program := "ytbkdbbfgdjcfgaa", sum := "ca4976e0b038f5b657042897557e3d6dacd6fd13369bd77167a5fbeb009b5949", func := "loop.example/macroexpander/laws.FnExactFreeOf", spec := "fnExactFreeOf", recurses := true, loops := true, apart := false, narrowed := true }
def FnExactFreeOfUptoSaid : Prop := fnExactFreeOfUptoRow.holds Try.pinned (OpenSpec.upto fnExactFreeOfSpec)

/-- 'laws.FnExactDeadRules', WHERE WHAT IT READS IS OF BULK AT MOST 1048576: true; the input reads as it did. -/
def fnExactDeadRulesUptoRow : OpenClaim := { program := "ytbkdbbfgdjcfgaa", sum := "ca4976e0b038f5b657042897557e3d6dacd6fd13369bd77167a5fbeb009b5949", func := "loop.example/macroexpander/laws.FnExactDeadRules", spec := "fnExactDeadRules", inPlace := ["internal/bytealg.IndexByteString"], unfollowed := true, recurses := true, loops := true, apart := false, narrowed := true }
def FnExactDeadRulesUptoSaid : Prop := fnExactDeadRulesUptoRow.holds Try.pinned (OpenSpec.upto fnExactDeadRulesSpec)

/-- 'laws.FnExactHitForms', WHERE WHAT IT READS IS OF BULK AT MOST 1048576: true; the input reads as it did. -/
def fnExactHitFormsUptoRow : OpenClaim := { program := "ytbkdbbfgdjcfgaa", sum := "ca4976e0b038f5b657042897557e3d6dacd6fd13369bd77167a5fbeb009b5949", func := "loop.example/macroexpander/laws.FnExactHitForms", spec := "fnExactHitForms", inPlace := ["internal/bytealg.IndexByteString"], unfollowed := true, recurses := true, loops := true, apart := false, narrowed := true }
def FnExactHitFormsUptoSaid : Prop := fnExactHitFormsUptoRow.holds Try.pinned (OpenSpec.upto fnExactHitFormsSpec)

/-- 'laws.FnExactPatternVars', WHERE WHAT IT READS IS OF BULK AT MOST 1048576: true; the input reads as it did. -/
def fnExactPatternVarsUptoRow : OpenClaim := { program := "ytbkdbbfgdjcfgaa", sum := "ca4976e0b038f5b657042897557e3d6dacd6fd13369bd77167a5fbeb009b5949", func := "loop.example/macroexpander/laws.FnExactPatternVars", spec := "fnExactPatternVars", inPlace := ["internal/bytealg.IndexByteString"], unfollowed := true, recurses := true, loops := true, apart := false, narrowed := true }
def FnExactPatternVarsUptoSaid : Prop := fnExactPatternVarsUptoRow.holds Try.pinned (OpenSpec.upto fnExactPatternVarsSpec)

/-- 'laws.FnExactFindHit', WHERE WHAT IT READS IS OF BULK AT MOST 1048576: true; the input reads as it did. -/
def fnExactFindHitUptoRow : OpenClaim := { program := "ytbkdbbfgdjcfgaa", sum := "ca4976e0b038f5b657042897557e3d6dacd6fd13369bd77167a5fbeb009b5949", func := "loop.example/macroexpander/laws.FnExactFindHit", spec := "fnExactFindHit", inPlace := ["internal/bytealg.IndexByteString"], unfollowed := true, recurses := true, loops := true, apart := false, narrowed := true }
def FnExactFindHitUptoSaid : Prop := fnExactFindHitUptoRow.holds Try.pinned (OpenSpec.upto fnExactFindHitSpec)

/-- 'laws.FnExactNumberCore', WHERE WHAT IT READS IS OF BULK AT MOST 1048576: true; the input reads as it did. -/
def fnExactNumberCoreUptoRow : OpenClaim := { program := "ytbkdbbfgdjcfgaa", sum := "ca4976e0b038f5b657042897557e3d6dacd6fd13369bd77167a5fbeb009b5949", func := "loop.example/macroexpander/laws.FnExactNumberCore", spec := "fnExactNumberCore", inPlace := ["internal/bytealg.IndexByteString"], unfollowed := true, recurses := true, loops := true, apart := false, narrowed := true }
def FnExactNumberCoreUptoSaid : Prop := fnExactNumberCoreUptoRow.holds Try.pinned (OpenSpec.upto fnExactNumberCoreSpec)

/-- 'laws.FnExactParseRules', WHERE WHAT IT READS IS OF BULK AT MOST 1048576: true; the input reads as it did. -/
def fnExactParseRulesUptoRow : OpenClaim := { program := "ytbkdbbfgdjcfgaa", sum := "ca4976e0b038f5b657042897557e3d6dacd6fd13369bd77167a5fbeb009b5949", func := "loop.example/macroexpander/laws.FnExactParseRules", spec := "fnExactParseRules", inPlace := ["internal/bytealg.IndexByteString"], unfollowed := true, recurses := true, loops := true, apart := false, narrowed := true }
def FnExactParseRulesUptoSaid : Prop := fnExactParseRulesUptoRow.holds Try.pinned (OpenSpec.upto fnExactParseRulesSpec)

/-- 'laws.FnExactFillTemplate', WHERE WHAT IT READS IS OF BULK AT MOST 1048576: true; the input reads as it did. -/
def fnExactFillTemplateUptoRow : OpenClaim := { program := "ytbkdbbfgdjcfgaa", sum := "ca4976e0b038f5b657042897557e3d6dacd6fd13369bd77167a5fbeb009b5949", func := "loop.example/macroexpander/laws.FnExactFillTemplate", spec := "fnExactFillTemplate", inPlace := ["internal/bytealg.IndexByteString"], unfollowed := true, recurses := true, loops := true, apart := false, narrowed := true }
def FnExactFillTemplateUptoSaid : Prop := fnExactFillTemplateUptoRow.holds Try.pinned (OpenSpec.upto fnExactFillTemplateSpec)

end Rows
end Go.Proofs.Ytbkdbbfgdjcfgaa
