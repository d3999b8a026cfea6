/-
  NARROWER THAN 'FOR EVERY INPUT', by the rows' own cells (each row's printed sentence says how): FnExactExpansionValid: loops · FnExactMeaningOf: loops.
  DERIVED. THE GIVEN ROWS OF THIS SEAT. 3 by the template 'for every input the law returns true; each argument reads behind the call as it read before'; 0 by the template 'total and deterministic' (their statements: YtgicgbokgmmgdaaGreatTotals.lean).
  GIVEN WITH THE SEED: the statements are not yours to turn. If you find one false, say at which input.
  Laid BY PROGRAM, IN A SANDBOX (cutbox-rows.mjs): the forced cells as the released guide's own fill.sh prints them over the translation 0ff90107a8ef5e8b… (all of the seat's roots in one cut). By AI agents, Wed Nov 11 2026. No macro, syntax, notation, axiom, sorry.
-/
import Derived.Test.YtgicgbokgmmgdaaGreatChecked
import GoSem.Claim
import GoSem.ClaimJoined
import GoSem.ClaimMapViews
import Derived.JoinedTies
import Derived.KernelRfl
namespace Go.Proofs.YtgicgbokgmmgdaaGreat
/- THE CELL 'sum', in the pinned program and in every row, IS THE sha256 OF THE DUMP (.gsa) THAT YtgicgbokgmmgdaaGreatProg.lean LOADS. Nothing in Lean hashes anything: it is a label: what it is worth is what the hold of that sum in a sandbox is worth. -/
noncomputable def Tryz.pinned : Pinned := { name := "ytgicgbokgmmgdaagreat", sum := "0ff90107a8ef5e8ba2fa1db00bb74a474b0539906676d84bfb0c1b719e102e13", checked := Tryz.checked }
namespace Rows
def none {H : Type} : Left H := { results := [], args := [] }

/-- 'laws.FnExactExpansionValid': WHATEVER THE INPUT: true; the input reads as it did. -/
def fnExactExpansionValidSpec : ChangeSpec := { name := "fnExactExpansionValid", fn := fun _ => fun
  | [d] => { results := [.lit (.bool true)], args := [d] }
  | _ => none }
def fnExactExpansionValidRow : OpenClaim := { program := "ytgicgbokgmmgdaagreat", sum := "0ff90107a8ef5e8ba2fa1db00bb74a474b0539906676d84bfb0c1b719e102e13", func := "loop.example/macroexpander/laws.FnExactExpansionValid", spec := "fnExactExpansionValid", inPlace := ["internal/bytealg.IndexByteString"], unfollowed := true, recurses := true, loops := true, apart := false }
def FnExactExpansionValidSaid : Prop := fnExactExpansionValidRow.holds Tryz.pinned (OpenSpec.ofChange fnExactExpansionValidSpec)

/-- ITS FALSE NEIGHBOUR: 'it returns false'. Refute it at one input. -/
def fnExactExpansionValidWrong : ChangeSpec := { name := "fnExactExpansionValid", fn := fun _ => fun
  | [d] => { results := [.lit (.bool false)], args := [d] }
  | _ => none }
def FnExactExpansionValidWrongFalsely : Prop := fnExactExpansionValidRow.holds Tryz.pinned (OpenSpec.ofChange fnExactExpansionValidWrong)

/-- 'laws.FnTemplateValid': WHATEVER THE INPUT: true; the input reads as it did. -/
def fnTemplateValidSpec : ChangeSpec := { name := "fnTemplateValid", fn := fun _ => fun
  | [d] => { results := [.lit (.bool true)], args := [d] }
  | _ => none }
def fnTemplateValidRow : OpenClaim := { program := "ytgicgbokgmmgdaagreat", sum := "0ff90107a8ef5e8ba2fa1db00bb74a474b0539906676d84bfb0c1b719e102e13", func := "loop.example/macroexpander/laws.FnTemplateValid", spec := "fnTemplateValid", inPlace := ["internal/bytealg.IndexByteString"], unfollowed := true, recurses := true, apart := false }
def FnTemplateValidSaid : Prop := fnTemplateValidRow.holds Tryz.pinned (OpenSpec.ofChange fnTemplateValidSpec)

/-- ITS FALSE NEIGHBOUR: 'it returns false'. Refute it at one input. -/
def fnTemplateValidWrong : ChangeSpec := { name := "fnTemplateValid", fn := fun _ => fun
  | [d] => { results := [.lit (.bool false)], args := [d] }
  | _ => none }
def FnTemplateValidWrongFalsely : Prop := fnTemplateValidRow.holds Tryz.pinned (OpenSpec.ofChange fnTemplateValidWrong)

/-- 'laws.FnExactMeaningOf': WHATEVER THE INPUT: true; the input reads as it did. -/
def fnExactMeaningOfSpec : ChangeSpec := { name := "fnExactMeaningOf", fn := fun _ => fun
  | [d1, d2] => { results := [.lit (.bool true)], args := [d1, d2] }
  | _ => none }
def fnExactMeaningOfRow : OpenClaim := { program := "ytgicgbokgmmgdaagreat", sum := "0ff90107a8ef5e8ba2fa1db00bb74a474b0539906676d84bfb0c1b719e102e13", func := "loop.example/macroexpander/laws.FnExactMeaningOf", spec := "fnExactMeaningOf", inPlace := ["internal/bytealg.IndexByteString"], unfollowed := true, recurses := true, loops := true, apart := false }
def FnExactMeaningOfSaid : Prop := fnExactMeaningOfRow.holds Tryz.pinned (OpenSpec.ofChange fnExactMeaningOfSpec)

/-- ITS FALSE NEIGHBOUR: 'it returns false'. Refute it at one input. -/
def fnExactMeaningOfWrong : ChangeSpec := { name := "fnExactMeaningOf", fn := fun _ => fun
  | [d1, d2] => { results := [.lit (.bool false)], args := [d1, d2] }
  | _ => none }
def FnExactMeaningOfWrongFalsely : Prop := fnExactMeaningOfRow.holds Tryz.pinned (OpenSpec.ofChange fnExactMeaningOfWrong)

/- THE SECOND FORM. 'bulk': how many values and letters a reading holds, each counted each time it is reached (what is shared counts as often as it is met; a slice's spare places count too). A statement '..UptoSaid' is the law's where the arguments, and the package variables that the reading takes, are together of bulk at most 1048576: NARROWER than '..Said'. Prove '..Said' where nothing that the law and all that it calls make is longer than what came in: it says more and counts as full. Else prove '..UptoSaid'. A law counts once. -/
mutual
def uptoBulk {H : Type} : DataW H → Nat
  | .lit (.string bytes) => bytes.length + 1
  | .lit _ => 1
  | .nil => 1
  | .ptr d => uptoBulk d + 1
  | .slice elems spare => uptoBulkAll elems + uptoBulkAll spare + 1
  | .agg parts => uptoBulkAll parts + 1
  | .iface _ d => uptoBulk d + 1
  | .map entries => uptoBulkEntries entries + 1
  | .held _ => 1
def uptoBulkAll {H : Type} : List (DataW H) → Nat
  | [] => 0
  | d :: r => uptoBulk d + uptoBulkAll r
def uptoBulkEntries {H : Type} : List (Lit × DataW H) → Nat
  | [] => 0
  | x :: r => uptoBulkEntry x + uptoBulkEntries r
def uptoBulkEntry {H : Type} : Lit × DataW H → Nat
  | (.string bytes, d) => bytes.length + uptoBulk d + 1
  | (_, d) => uptoBulk d + 1
 end
def uptoSmall : (H : Type) → List (DataW H) → Bool := fun _ ds => decide (uptoBulkAll ds ≤ 1048576)
def OpenSpec.upto (s : _root_.Go.ChangeSpec) : _root_.Go.OpenSpec := { _root_.Go.OpenSpec.ofChange s with cond := some uptoSmall }

/-- 'laws.FnExactExpansionValid', WHERE WHAT IT READS IS OF BULK AT MOST 1048576: true; the input reads as it did. -/
def fnExactExpansionValidUptoRow : OpenClaim := { program := "ytgicgbokgmmgdaagreat", sum := "0ff90107a8ef5e8ba2fa1db00bb74a474b0539906676d84bfb0c1b719e102e13", func := "loop.example/macroexpander/laws.FnExactExpansionValid", spec := "fnExactExpansionValid", inPlace := ["internal/bytealg.IndexByteString"], unfollowed := true, recurses := true, loops := true, apart := false, narrowed := true }
def FnExactExpansionValidUptoSaid : Prop := fnExactExpansionValidUptoRow.holds Tryz.pinned (OpenSpec.upto fnExactExpansionValidSpec)

/-- 'laws.FnTemplateValid', WHERE WHAT IT READS IS OF BULK AT MOST 1048576: true; the input reads as it did. -/
def fnTemplateValidUptoRow : OpenClaim := { program := "ytgicgbokgmmgdaagreat", sum := "0ff90107a8ef5e8ba2fa1db00bb74a474b0539906676d84bfb0c1b719e102e13", func := "loop.example/macroexpander/laws.FnTemplateValid", spec := "fnTemplateValid", inPlace := ["internal/bytealg.IndexByteString"], unfollowed := true, recurses := true, apart := false, narrowed := true }
def FnTemplateValidUptoSaid : Prop := fnTemplateValidUptoRow.holds Tryz.pinned (OpenSpec.upto fnTemplateValidSpec)

/-- 'laws.FnExactMeaningOf', WHERE WHAT IT READS IS OF BULK AT MOST 1048576: true; the input reads as it did. -/
def fnExactMeaningOfUptoRow : OpenClaim := { program := "ytgicgbokgmmgdaagreat", sum := "0ff90107a8ef5e8ba2fa1db00bb74a474b0539906676d84bfb0c1b719e102e13", func := "loop.example/macroexpander/laws.FnExactMeaningOf", spec := "fnExactMeaningOf", inPlace := ["internal/bytealg.IndexByteString"], unfollowed := true, recurses := true, loops := true, apart := false, narrowed := true }
def FnExactMeaningOfUptoSaid : Prop := fnExactMeaningOfUptoRow.holds Tryz.pinned (OpenSpec.upto fnExactMeaningOfSpec)

end Rows
end Go.Proofs.YtgicgbokgmmgdaaGreat
