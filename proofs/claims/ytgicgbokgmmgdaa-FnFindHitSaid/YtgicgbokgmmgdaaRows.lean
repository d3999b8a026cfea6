/-
  NARROWER THAN 'FOR EVERY INPUT', by the rows' own cells (each row's printed sentence says how): FnExactTemplateValid: loops · FnExactRuleValid: loops.
  DERIVED. THE GIVEN ROWS OF THIS SEAT. 9 by the template 'for every input the law returns true; each argument reads behind the call as it read before'; 0 by the template 'total and deterministic' (their statements: YtgicgbokgmmgdaaTotals.lean).
  GIVEN WITH THE SEED: the statements are not yours to turn. If you find one false, say at which input.
  Laid BY PROGRAM, IN A SANDBOX (cutbox-rows.mjs): the forced cells as the released guide's own fill.sh prints them over the translation 777a7016cf9e078f… (all of the seat's roots in one cut). By AI agents, Wed Nov 11 2026. No macro, syntax, notation, axiom, sorry.
-/
import Derived.Test.YtgicgbokgmmgdaaChecked
import GoSem.Claim
import GoSem.ClaimJoined
import GoSem.ClaimMapViews
import Derived.JoinedTies
import Derived.KernelRfl
namespace Go.Proofs.Ytgicgbokgmmgdaa
/- THE CELL 'sum', in the pinned program and in every row, IS THE sha256 OF THE DUMP (.gsa) THAT YtgicgbokgmmgdaaProg.lean LOADS. Nothing in Lean hashes anything: it is a label: what it is worth is what the hold of that sum in a sandbox is worth. -/
noncomputable def Try.pinned : Pinned := { name := "ytgicgbokgmmgdaa", sum := "777a7016cf9e078f2d89d2a6705af4288459e01fffa24ba42b50673369cc18bd", checked := Try.checked }
namespace Rows
def none {H : Type} : Left H := { results := [], args := [] }

/-- 'laws.FnExactTemplateValid': WHATEVER THE INPUT: true; the input reads as it did. -/
def fnExactTemplateValidSpec : ChangeSpec := { name := "fnExactTemplateValid", fn := fun _ => fun
  | [d1, d2] => { results := [.lit (.bool true)], args := [d1, d2] }
  | _ => none }
def fnExactTemplateValidRow : OpenClaim := { program := "ytgicgbokgmmgdaa", sum := "777a7016cf9e078f2d89d2a6705af4288459e01fffa24ba42b50673369cc18bd", func := "loop.example/macroexpander/laws.FnExactTemplateValid", spec := "fnExactTemplateValid", inPlace := ["internal/bytealg.IndexByteString"], unfollowed := true, recurses := true, loops := true, apart := false }
def FnExactTemplateValidSaid : Prop := fnExactTemplateValidRow.holds Try.pinned (OpenSpec.ofChange fnExactTemplateValidSpec)

/-- ITS FALSE NEIGHBOUR: 'it returns false'. Refute it at one input. -/
def fnExactTemplateValidWrong : ChangeSpec := { name := "fnExactTemplateValid", fn := fun _ => fun
  | [d1, d2] => { results := [.lit (.bool false)], args := [d1, d2] }
  | _ => none }
def FnExactTemplateValidWrongFalsely : Prop := fnExactTemplateValidRow.holds Try.pinned (OpenSpec.ofChange fnExactTemplateValidWrong)

/-- 'laws.FnExactRuleValid': WHATEVER THE INPUT: true; the input reads as it did. -/
def fnExactRuleValidSpec : ChangeSpec := { name := "fnExactRuleValid", fn := fun _ => fun
  | [d1, d2] => { results := [.lit (.bool true)], args := [d1, d2] }
  | _ => none }
def fnExactRuleValidRow : OpenClaim := { program := "ytgicgbokgmmgdaa", sum := "777a7016cf9e078f2d89d2a6705af4288459e01fffa24ba42b50673369cc18bd", func := "loop.example/macroexpander/laws.FnExactRuleValid", spec := "fnExactRuleValid", inPlace := ["internal/bytealg.IndexByteString"], unfollowed := true, recurses := true, loops := true, apart := false }
def FnExactRuleValidSaid : Prop := fnExactRuleValidRow.holds Try.pinned (OpenSpec.ofChange fnExactRuleValidSpec)

/-- ITS FALSE NEIGHBOUR: 'it returns false'. Refute it at one input. -/
def fnExactRuleValidWrong : ChangeSpec := { name := "fnExactRuleValid", fn := fun _ => fun
  | [d1, d2] => { results := [.lit (.bool false)], args := [d1, d2] }
  | _ => none }
def FnExactRuleValidWrongFalsely : Prop := fnExactRuleValidRow.holds Try.pinned (OpenSpec.ofChange fnExactRuleValidWrong)

/-- 'laws.FnVarsOf': WHATEVER THE INPUT: true; the input reads as it did. -/
def fnVarsOfSpec : ChangeSpec := { name := "fnVarsOf", fn := fun _ => fun
  | [d] => { results := [.lit (.bool true)], args := [d] }
  | _ => none }
def fnVarsOfRow : OpenClaim := { program := "ytgicgbokgmmgdaa", sum := "777a7016cf9e078f2d89d2a6705af4288459e01fffa24ba42b50673369cc18bd", func := "loop.example/macroexpander/laws.FnVarsOf", spec := "fnVarsOf", inPlace := ["internal/bytealg.IndexByteString"], unfollowed := true, recurses := true, apart := false }
def FnVarsOfSaid : Prop := fnVarsOfRow.holds Try.pinned (OpenSpec.ofChange fnVarsOfSpec)

/-- ITS FALSE NEIGHBOUR: 'it returns false'. Refute it at one input. -/
def fnVarsOfWrong : ChangeSpec := { name := "fnVarsOf", fn := fun _ => fun
  | [d] => { results := [.lit (.bool false)], args := [d] }
  | _ => none }
def FnVarsOfWrongFalsely : Prop := fnVarsOfRow.holds Try.pinned (OpenSpec.ofChange fnVarsOfWrong)

/-- 'laws.FnPatternValid': WHATEVER THE INPUT: true; the input reads as it did. -/
def fnPatternValidSpec : ChangeSpec := { name := "fnPatternValid", fn := fun _ => fun
  | [d] => { results := [.lit (.bool true)], args := [d] }
  | _ => none }
def fnPatternValidRow : OpenClaim := { program := "ytgicgbokgmmgdaa", sum := "777a7016cf9e078f2d89d2a6705af4288459e01fffa24ba42b50673369cc18bd", func := "loop.example/macroexpander/laws.FnPatternValid", spec := "fnPatternValid", inPlace := ["internal/bytealg.IndexByteString"], unfollowed := true, recurses := true, apart := false }
def FnPatternValidSaid : Prop := fnPatternValidRow.holds Try.pinned (OpenSpec.ofChange fnPatternValidSpec)

/-- ITS FALSE NEIGHBOUR: 'it returns false'. Refute it at one input. -/
def fnPatternValidWrong : ChangeSpec := { name := "fnPatternValid", fn := fun _ => fun
  | [d] => { results := [.lit (.bool false)], args := [d] }
  | _ => none }
def FnPatternValidWrongFalsely : Prop := fnPatternValidRow.holds Try.pinned (OpenSpec.ofChange fnPatternValidWrong)

/-- 'laws.FnRuleVars': WHATEVER THE INPUT: true; the input reads as it did. -/
def fnRuleVarsSpec : ChangeSpec := { name := "fnRuleVars", fn := fun _ => fun
  | [d] => { results := [.lit (.bool true)], args := [d] }
  | _ => none }
def fnRuleVarsRow : OpenClaim := { program := "ytgicgbokgmmgdaa", sum := "777a7016cf9e078f2d89d2a6705af4288459e01fffa24ba42b50673369cc18bd", func := "loop.example/macroexpander/laws.FnRuleVars", spec := "fnRuleVars", inPlace := ["internal/bytealg.IndexByteString"], unfollowed := true, recurses := true, apart := false }
def FnRuleVarsSaid : Prop := fnRuleVarsRow.holds Try.pinned (OpenSpec.ofChange fnRuleVarsSpec)

/-- ITS FALSE NEIGHBOUR: 'it returns false'. Refute it at one input. -/
def fnRuleVarsWrong : ChangeSpec := { name := "fnRuleVars", fn := fun _ => fun
  | [d] => { results := [.lit (.bool false)], args := [d] }
  | _ => none }
def FnRuleVarsWrongFalsely : Prop := fnRuleVarsRow.holds Try.pinned (OpenSpec.ofChange fnRuleVarsWrong)

/-- 'laws.FnHitsSame': WHATEVER THE INPUT: true; the input reads as it did. -/
def fnHitsSameSpec : ChangeSpec := { name := "fnHitsSame", fn := fun _ => fun
  | [d] => { results := [.lit (.bool true)], args := [d] }
  | _ => none }
def fnHitsSameRow : OpenClaim := { program := "ytgicgbokgmmgdaa", sum := "777a7016cf9e078f2d89d2a6705af4288459e01fffa24ba42b50673369cc18bd", func := "loop.example/macroexpander/laws.FnHitsSame", spec := "fnHitsSame", inPlace := ["internal/bytealg.IndexByteString"], unfollowed := true, recurses := true, apart := false }
def FnHitsSameSaid : Prop := fnHitsSameRow.holds Try.pinned (OpenSpec.ofChange fnHitsSameSpec)

/-- ITS FALSE NEIGHBOUR: 'it returns false'. Refute it at one input. -/
def fnHitsSameWrong : ChangeSpec := { name := "fnHitsSame", fn := fun _ => fun
  | [d] => { results := [.lit (.bool false)], args := [d] }
  | _ => none }
def FnHitsSameWrongFalsely : Prop := fnHitsSameRow.holds Try.pinned (OpenSpec.ofChange fnHitsSameWrong)

/-- 'laws.FnHitsParts': WHATEVER THE INPUT: true; the input reads as it did. -/
def fnHitsPartsSpec : ChangeSpec := { name := "fnHitsParts", fn := fun _ => fun
  | [d] => { results := [.lit (.bool true)], args := [d] }
  | _ => none }
def fnHitsPartsRow : OpenClaim := { program := "ytgicgbokgmmgdaa", sum := "777a7016cf9e078f2d89d2a6705af4288459e01fffa24ba42b50673369cc18bd", func := "loop.example/macroexpander/laws.FnHitsParts", spec := "fnHitsParts", inPlace := ["internal/bytealg.IndexByteString"], unfollowed := true, recurses := true, apart := false }
def FnHitsPartsSaid : Prop := fnHitsPartsRow.holds Try.pinned (OpenSpec.ofChange fnHitsPartsSpec)

/-- ITS FALSE NEIGHBOUR: 'it returns false'. Refute it at one input. -/
def fnHitsPartsWrong : ChangeSpec := { name := "fnHitsParts", fn := fun _ => fun
  | [d] => { results := [.lit (.bool false)], args := [d] }
  | _ => none }
def FnHitsPartsWrongFalsely : Prop := fnHitsPartsRow.holds Try.pinned (OpenSpec.ofChange fnHitsPartsWrong)

/-- 'laws.FnHitForms': WHATEVER THE INPUT: true; the input reads as it did. -/
def fnHitFormsSpec : ChangeSpec := { name := "fnHitForms", fn := fun _ => fun
  | [d] => { results := [.lit (.bool true)], args := [d] }
  | _ => none }
def fnHitFormsRow : OpenClaim := { program := "ytgicgbokgmmgdaa", sum := "777a7016cf9e078f2d89d2a6705af4288459e01fffa24ba42b50673369cc18bd", func := "loop.example/macroexpander/laws.FnHitForms", spec := "fnHitForms", inPlace := ["internal/bytealg.IndexByteString"], unfollowed := true, recurses := true, apart := false }
def FnHitFormsSaid : Prop := fnHitFormsRow.holds Try.pinned (OpenSpec.ofChange fnHitFormsSpec)

/-- ITS FALSE NEIGHBOUR: 'it returns false'. Refute it at one input. -/
def fnHitFormsWrong : ChangeSpec := { name := "fnHitForms", fn := fun _ => fun
  | [d] => { results := [.lit (.bool false)], args := [d] }
  | _ => none }
def FnHitFormsWrongFalsely : Prop := fnHitFormsRow.holds Try.pinned (OpenSpec.ofChange fnHitFormsWrong)

/-- 'laws.FnFindHit': WHATEVER THE INPUT: true; the input reads as it did. -/
def fnFindHitSpec : ChangeSpec := { name := "fnFindHit", fn := fun _ => fun
  | [d] => { results := [.lit (.bool true)], args := [d] }
  | _ => none }
def fnFindHitRow : OpenClaim := { program := "ytgicgbokgmmgdaa", sum := "777a7016cf9e078f2d89d2a6705af4288459e01fffa24ba42b50673369cc18bd", func := "loop.example/macroexpander/laws.FnFindHit", spec := "fnFindHit", inPlace := ["internal/bytealg.IndexByteString"], unfollowed := true, recurses := true, apart := false }
def FnFindHitSaid : Prop := fnFindHitRow.holds Try.pinned (OpenSpec.ofChange fnFindHitSpec)

/-- ITS FALSE NEIGHBOUR: 'it returns false'. Refute it at one input. -/
def fnFindHitWrong : ChangeSpec := { name := "fnFindHit", fn := fun _ => fun
  | [d] => { results := [.lit (.bool false)], args := [d] }
  | _ => none }
def FnFindHitWrongFalsely : Prop := fnFindHitRow.holds Try.pinned (OpenSpec.ofChange fnFindHitWrong)

/- THE SECOND FORM. 'bulk': how many values and letters a reading holds, each counted each time it is reached (what is shared counts as often as it is met; a slice's spare places count too). A statement '..UptoSaid' is the law's where the arguments, and the package variables that the reading takes, are together of bulk at most 1048576: NARROWER than '..Said'. Prove '..Said' where nothing that the law and all that it calls make is longer than what came in: it says more and counts as full. Else prove '..UptoSaid'. A law counts once. -/
mutual
def uptoBulk {H : Type} : DataW H → Nat
  | .lit (.string bytes) => bytes.length + 1
  | .lit _ => 1
  | .nil => 1
  | .ptr d => uptoBulk d + 1
  | .slice elems spare => uptoBulkAll elems + uptoBulkAll spare + 1
  | .agg parts => uptoBulkAll parts + 1
  | .iface _ d => uptoBulk d + 1
  | .map entries => uptoBulkEntries entries + 1
  | .held _ => 1
def uptoBulkAll {H : Type} : List (DataW H) → Nat
  | [] => 0
  | d :: r => uptoBulk d + uptoBulkAll r
def uptoBulkEntries {H : Type} : List (Lit × DataW H) → Nat
  | [] => 0
  | x :: r => uptoBulkEntry x + uptoBulkEntries r
def uptoBulkEntry {H : Type} : Lit × DataW H → Nat
  | (.string bytes, d) => bytes.length + uptoBulk d + 1
  | (_, d) => uptoBulk d + 1
 end
def uptoSmall : (H : Type) → List (DataW H) → Bool := fun _ ds => decide (uptoBulkAll ds ≤ 1048576)
def OpenSpec.upto (s : _root_.Go.ChangeSpec) : _root_.Go.OpenSpec := { _root_.Go.OpenSpec.ofChange s with cond := some uptoSmall }

/-- 'laws.FnExactTemplateValid', WHERE WHAT IT READS IS OF BULK AT MOST 1048576: true; the input reads as it did. -/
def fnExactTemplateValidUptoRow : OpenClaim := { program := "ytgicgbokgmmgdaa", sum := "777a7016cf9e078f2d89d2a6705af4288459e01fffa24ba42b50673369cc18bd", func := "loop.example/macroexpander/laws.FnExactTemplateValid", spec := "fnExactTemplateValid", inPlace := ["internal/bytealg.IndexByteString"], unfollowed := true, recurses := true, loops := true, apart := false, narrowed := true }
def FnExactTemplateValidUptoSaid : Prop := fnExactTemplateValidUptoRow.holds Try.pinned (OpenSpec.upto fnExactTemplateValidSpec)

/-- 'laws.FnExactRuleValid', WHERE WHAT IT READS IS OF BULK AT MOST 1048576: true; the input reads as it did. -/
def fnExactRuleValidUptoRow : OpenClaim := { program := "ytgicgbokgmmgdaa", sum := "777a7016cf9e078f2d89d2a6705af4288459e01fffa24ba42b50673369cc18bd", func := "loop.example/macroexpander/laws.FnExactRuleValid", spec := "fnExactRuleValid", inPlace := ["internal/bytealg.IndexByteString"], unfollowed := true, recurses := true, loops := true, apart := false, narrowed := true }
def FnExactRuleValidUptoSaid : Prop := fnExactRuleValidUptoRow.holds Try.pinned (OpenSpec.upto fnExactRuleValidSpec)

/-- 'laws.FnVarsOf', WHERE WHAT IT READS IS OF BULK AT MOST 1048576: true; the input reads as it did. -/
def fnVarsOfUptoRow : OpenClaim := { program := "ytgicgbokgmmgdaa", sum := "777a7016cf9e078f2d89d2a6705af4288459e01fffa24ba42b50673369cc18bd", func := "loop.example/macroexpander/laws.FnVarsOf", spec := "fnVarsOf", inPlace := ["internal/bytealg.IndexByteString"], unfollowed := true, recurses := true, apart := false, narrowed := true }
def FnVarsOfUptoSaid : Prop := fnVarsOfUptoRow.holds Try.pinned (OpenSpec.upto fnVarsOfSpec)

/-- 'laws.FnPatternValid', WHERE WHAT IT READS IS OF BULK AT MOST 1048576: true; the input reads as it did. -/
def fnPatternValidUptoRow : OpenClaim := { program := "ytgicgbokgmmgdaa", sum := "777a7016cf9e078f2d89d2a6705af4288459e01fffa24ba42b50673369cc18bd", func := "loop.example/macroexpander/laws.FnPatternValid", spec := "fnPatternValid", inPlace := ["internal/bytealg.IndexByteString"], unfollowed := true, recurses := true, apart := false, narrowed := true }
def FnPatternValidUptoSaid : Prop := fnPatternValidUptoRow.holds Try.pinned (OpenSpec.upto fnPatternValidSpec)

/-- 'laws.FnRuleVars', WHERE WHAT IT READS IS OF BULK AT MOST 1048576: true; the input reads as it did. -/
def fnRuleVarsUptoRow : OpenClaim := { program := "ytgicgbokgmmgdaa", sum := "777a7016cf9e078f2d89d2a6705af4288459e01fffa24ba42b50673369cc18bd", func := "loop.example/macroexpander/laws.FnRuleVars", spec := "fnRuleVars", inPlace := ["internal/bytealg.IndexByteString"], unfollowed := true, recurses := true, apart := false, narrowed := true }
def FnRuleVarsUptoSaid : Prop := fnRuleVarsUptoRow.holds Try.pinned (OpenSpec.upto fnRuleVarsSpec)

/-- 'laws.FnHitsSame', WHERE WHAT IT READS IS OF BULK AT MOST 1048576: true; the input reads as it did. -/
def fnHitsSameUptoRow : OpenClaim := { program := "ytgicgbokgmmgdaa", sum := "777a7016cf9e078f2d89d2a6705af4288459e01fffa24ba42b50673369cc18bd", func := "loop.example/macroexpander/laws.FnHitsSame", spec := "fnHitsSame", inPlace := ["internal/bytealg.IndexByteString"], unfollowed := true, recurses := true, apart := false, narrowed := true }
def FnHitsSameUptoSaid : Prop := fnHitsSameUptoRow.holds Try.pinned (OpenSpec.upto fnHitsSameSpec)

/-- 'laws.FnHitsParts', WHERE WHAT IT READS IS OF BULK AT MOST 1048576: true; the input reads as it did. -/
def fnHitsPartsUptoRow : OpenClaim := { program := "ytgicgbokgmmgdaa", sum := "777a7016cf9e078f2d89d2a6705af4288459e01fffa24ba42b50673369cc18bd", func := "loop.example/macroexpander/laws.FnHitsParts", spec := "fnHitsParts", inPlace := ["internal/bytealg.IndexByteString"], unfollowed := true, recurses := true, apart := false, narrowed := true }
def FnHitsPartsUptoSaid : Prop := fnHitsPartsUptoRow.holds Try.pinned (OpenSpec.upto fnHitsPartsSpec)

/-- 'laws.FnHitForms', WHERE WHAT IT READS IS OF BULK AT MOST 1048576: true; the input reads as it did. -/
def fnHitFormsUptoRow : OpenClaim := { program := "ytgicgbokgmmgdaa", sum := "777a7016cf9e078f2d89d2a6705af4288459e01fffa24ba42b50673369cc18bd", func := "loop.example/macroexpander/laws.FnHitForms", spec := "fnHitForms", inPlace := ["internal/bytealg.IndexByteString"], unfollowed := true, recurses := true, apart := false, narrowed := true }
def FnHitFormsUptoSaid : Prop := fnHitFormsUptoRow.holds Try.pinned (OpenSpec.upto fnHitFormsSpec)

/-- 'laws.FnFindHit', WHERE WHAT IT READS IS OF BULK AT MOST 1048576: true; the input reads as it did. -/
def fnFindHitUptoRow : OpenClaim := { program := "ytgicgbokgmmgdaa", sum := "777a7016cf9e078f2d89d2a6705af4288459e01fffa24ba42b50673369cc18bd", func := "loop.example/macroexpander/laws.FnFindHit", spec := "fnFindHit", inPlace := ["internal/bytealg.IndexByteString"], unfollowed := true, recurses := true, apart := false, narrowed := true }
def FnFindHitUptoSaid : Prop := fnFindHitUptoRow.holds Try.pinned (OpenSpec.upto fnFindHitSpec)

end Rows
end Go.Proofs.Ytgicgbokgmmgdaa
