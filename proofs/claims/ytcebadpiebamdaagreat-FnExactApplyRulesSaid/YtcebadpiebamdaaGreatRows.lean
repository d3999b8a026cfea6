/-
  NARROWER THAN 'FOR EVERY INPUT', by the rows' own cells (each row's printed sentence says how): FnExactMatchPattern: loops · FnExactFindMacro: loops · FnExactApplyRules: loops.
  DERIVED. THE GIVEN ROWS OF THIS SEAT. 3 by the template 'for every input the law returns true; each argument reads behind the call as it read before'; 0 by the template 'total and deterministic' (their statements: YtcebadpiebamdaaGreatTotals.lean).
  GIVEN WITH THE SEED: the statements are not yours to turn. If you find one false, say at which input.
  Laid BY PROGRAM, IN A SANDBOX (cutbox-rows.mjs): the forced cells as the released guide's own fill.sh prints them over the translation 177083c50f966047… (all of the seat's roots in one cut). By AI agents, Wed Nov 11 2026. No macro, syntax, notation, axiom, sorry.
-/
import Derived.Test.YtcebadpiebamdaaGreatChecked
import GoSem.Claim
import GoSem.ClaimJoined
import GoSem.ClaimMapViews
import Derived.JoinedTies
import Derived.KernelRfl
namespace Go.Proofs.YtcebadpiebamdaaGreat
/- THE CELL 'sum', in the pinned program and in every row, IS THE sha256 OF THE DUMP (.gsa) THAT YtcebadpiebamdaaGreatProg.lean LOADS. Nothing in Lean hashes anything: it is a label: what it is worth is what the hold of that sum in a sandbox is worth. -/
noncomputable def Tryz.pinned : Pinned := { name := "ytcebadpiebamdaagreat", sum := "177083c50f9660472b415ad86cad55eab737e8c4300c4448f47c89547f4087bf", checked := Tryz.checked }
namespace Rows
def none {H : Type} : Left H := { results := [], args := [] }

/-- 'laws.FnExactMatchPattern': WHATEVER THE INPUT: true; the input reads as it did. -/
def fnExactMatchPatternSpec : ChangeSpec := { name := "fnExactMatchPattern", fn := fun _ => fun
  | [d1, d2, d3, d4] => { results := [.lit (.bool true)], args := [d1, d2, d3, d4] }
  | _ => none }
def fnExactMatchPatternRow : OpenClaim := { program := "ytcebadpiebamdaagreat", sum := "177083c50f9660472b415ad86cad55eab737e8c4300c4448f47c89547f4087bf", func := "loop.example/macroexpander/laws.FnExactMatchPattern", spec := "fnExactMatchPattern", inPlace := ["internal/bytealg.IndexByteString"], unfollowed := true, recurses := true, loops := true, apart := false }
def FnExactMatchPatternSaid : Prop := fnExactMatchPatternRow.holds Tryz.pinned (OpenSpec.ofChange fnExactMatchPatternSpec)

/-- ITS FALSE NEIGHBOUR: 'it returns false'. Refute it at one input. -/
def fnExactMatchPatternWrong : ChangeSpec := { name := "fnExactMatchPattern", fn := fun _ => fun
  | [d1, d2, d3, d4] => { results := [.lit (.bool false)], args := [d1, d2, d3, d4] }
  | _ => none }
def FnExactMatchPatternWrongFalsely : Prop := fnExactMatchPatternRow.holds Tryz.pinned (OpenSpec.ofChange fnExactMatchPatternWrong)

/-- 'laws.FnExactFindMacro': WHATEVER THE INPUT: true; the input reads as it did. -/
def fnExactFindMacroSpec : ChangeSpec := { name := "fnExactFindMacro", fn := fun _ => fun
  | [d1, d2] => { results := [.lit (.bool true)], args := [d1, d2] }
  | _ => none }
def fnExactFindMacroRow : OpenClaim := { program := "ytcebadpiebamdaagreat", sum := "177083c50f9660472b415ad86cad55eab737e8c4300c4448f47c89547f4087bf", func := "loop.example/macroexpander/laws.FnExactFindMacro", spec := "fnExactFindMacro", inPlace := ["internal/bytealg.IndexByteString"], unfollowed := true, recurses := true, loops := true, apart := false }
def FnExactFindMacroSaid : Prop := fnExactFindMacroRow.holds Tryz.pinned (OpenSpec.ofChange fnExactFindMacroSpec)

/-- ITS FALSE NEIGHBOUR: 'it returns false'. Refute it at one input. -/
def fnExactFindMacroWrong : ChangeSpec := { name := "fnExactFindMacro", fn := fun _ => fun
  | [d1, d2] => { results := [.lit (.bool false)], args := [d1, d2] }
  | _ => none }
def FnExactFindMacroWrongFalsely : Prop := fnExactFindMacroRow.holds Tryz.pinned (OpenSpec.ofChange fnExactFindMacroWrong)

/-- 'laws.FnExactApplyRules': WHATEVER THE INPUT: true; the input reads as it did. -/
def fnExactApplyRulesSpec : ChangeSpec := { name := "fnExactApplyRules", fn := fun _ => fun
  | [d1, d2, d3, d4] => { results := [.lit (.bool true)], args := [d1, d2, d3, d4] }
  | _ => none }
def fnExactApplyRulesRow : OpenClaim := { program := "ytcebadpiebamdaagreat", sum := "177083c50f9660472b415ad86cad55eab737e8c4300c4448f47c89547f4087bf", func := "loop.example/macroexpander/laws.FnExactApplyRules", spec := "fnExactApplyRules", inPlace := ["internal/bytealg.IndexByteString"], unfollowed := true, recurses := true, loops := true, apart := false }
def FnExactApplyRulesSaid : Prop := fnExactApplyRulesRow.holds Tryz.pinned (OpenSpec.ofChange fnExactApplyRulesSpec)

/-- ITS FALSE NEIGHBOUR: 'it returns false'. Refute it at one input. -/
def fnExactApplyRulesWrong : ChangeSpec := { name := "fnExactApplyRules", fn := fun _ => fun
  | [d1, d2, d3, d4] => { results := [.lit (.bool false)], args := [d1, d2, d3, d4] }
  | _ => none }
def FnExactApplyRulesWrongFalsely : Prop := fnExactApplyRulesRow.holds Tryz.pinned (OpenSpec.ofChange fnExactApplyRulesWrong)

/- THE SECOND FORM. 'bulk': how many values and letters a reading holds, each counted each time it is reached (what is shared counts as often as it is met; a slice's spare places count too). A statement '..UptoSaid' is the law's where the arguments, and the package variables that the reading takes, are together of bulk at most 1048576: NARROWER than '..Said'. Prove '..Said' where nothing that the law and all that it calls make is longer than what came in: it says more and counts as full. Else prove '..UptoSaid'. A law counts once. -/
mutual
def uptoBulk {H : Type} : DataW H → Nat
  | .lit (.string bytes) => bytes.length + 1
  | .lit _ => 1
  | .nil => 1
  | .ptr d => uptoBulk d + 1
  | .slice elems spare => uptoBulkAll elems + uptoBulkAll spare + 1
  | .agg parts => uptoBulkAll parts + 1
  | .iface _ d => uptoBulk d + 1
  | .map entries => uptoBulkEntries entries + 1
  | .held _ => 1
def uptoBulkAll {H : Type} : List (DataW H) → Nat
  | [] => 0
  | d :: r => uptoBulk d + uptoBulkAll r
def uptoBulkEntries {H : Type} : List (Lit × DataW H) → Nat
  | [] => 0
  | x :: r => uptoBulkEntry x + uptoBulkEntries r
def uptoBulkEntry {H : Type} : Lit × DataW H → Nat
  | (.string bytes, d) => bytes.length + uptoBulk d + 1
  | (_, d) => uptoBulk d + 1
 end
def uptoSmall : (H : Type) → List (DataW H) → Bool := fun _ ds => decide (uptoBulkAll ds ≤ 1048576)
def OpenSpec.upto (s : _root_.Go.ChangeSpec) : _root_.Go.OpenSpec := { _root_.Go.OpenSpec.ofChange s with cond := some uptoSmall }

/-- 'laws.FnExactMatchPattern', WHERE WHAT IT READS IS OF BULK AT MOST 1048576: true; the input reads as it did. -/
def fnExactMatchPatternUptoRow : OpenClaim := { program := "ytcebadpiebamdaagreat", sum := "177083c50f9660472b415ad86cad55eab737e8c4300c4448f47c89547f4087bf", func := "loop.example/macroexpander/laws.FnExactMatchPattern", spec := "fnExactMatchPattern", inPlace := ["internal/bytealg.IndexByteString"], unfollowed := true, recurses := true, loops := true, apart := false, narrowed := true }
def FnExactMatchPatternUptoSaid : Prop := fnExactMatchPatternUptoRow.holds Tryz.pinned (OpenSpec.upto fnExactMatchPatternSpec)

/-- 'laws.FnExactFindMacro', WHERE WHAT IT READS IS OF BULK AT MOST 1048576: true; the input reads as it did. -/
def fnExactFindMacroUptoRow : OpenClaim := { program := "ytcebadpiebamdaagreat", sum := "177083c50f9660472b415ad86cad55eab737e8c4300c4448f47c89547f4087bf", func := "loop.example/macroexpander/laws.FnExactFindMacro", spec := "fnExactFindMacro", inPlace := ["internal/bytealg.IndexByteString"], unfollowed := true, recurses := true, loops := true, apart := false, narrowed := true }
def FnExactFindMacroUptoSaid : Prop := fnExactFindMacroUptoRow.holds Tryz.pinned (OpenSpec.upto fnExactFindMacroSpec)

/-- 'laws.FnExactApplyRules', WHERE WHAT IT READS IS OF BULK AT MOST 1048576: true; the input reads as it did. -/
def fnExactApplyRulesUptoRow : OpenClaim := { program := "ytcebadpiebamdaagreat", sum := "177083c50f9660472b415ad86cad55eab737e8c4300c4448f47c89547f4087bf", func := "loop.example/macroexpander/laws.FnExactApplyRules", spec := "fnExactApplyRules", inPlace := ["internal/bytealg.IndexByteString"], unfollowed := true, recurses := true, loops := true, apart := false, narrowed := true }
def FnExactApplyRulesUptoSaid : Prop := fnExactApplyRulesUptoRow.holds Tryz.pinned (OpenSpec.upto fnExactApplyRulesSpec)

end Rows
end Go.Proofs.YtcebadpiebamdaaGreat
