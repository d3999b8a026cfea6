/-
  NARROWER THAN 'FOR EVERY INPUT', by the rows' own cells (each row's printed sentence says how): FnExactCoreSize: loops · FnExactCoreSame: loops.
  DERIVED. THE GIVEN ROWS OF THIS SEAT. 4 by the template 'for every input the law returns true; each argument reads behind the call as it read before'; 0 by the template 'total and deterministic' (their statements: YtpkelhmjemcogaaTotals.lean).
  GIVEN WITH THE SEED: the statements are not yours to turn. If you find one false, say at which input.
  Laid BY PROGRAM, IN A SANDBOX (cutbox-rows.mjs): the forced cells as the released guide's own fill.sh prints them over the translation 553341d6435cecd9… (all of the seat's roots in one cut). By AI agents, Wed Nov 11 2026. No macro, syntax, notation, axiom, sorry.
-/
import Derived.Test.YtpkelhmjemcogaaChecked
import GoSem.Claim
import GoSem.ClaimJoined
import GoSem.ClaimMapViews
import Derived.JoinedTies
import Derived.KernelRfl
namespace Go.Proofs.Ytpkelhmjemcogaa
/- THE CELL 'sum', in the pinned program and in every row, IS THE sha256 OF THE DUMP (.gsa) THAT YtpkelhmjemcogaaProg.lean LOADS. Nothing in Lean hashes anything: it is a label: what it is worth is what the hold of that sum in a sandbox is worth. -/
noncomputable def Try.pinned : Pinned := { name := "ytpkelhmjemcogaa", sum := "553341d6435cecd915d8fd98bea4d84bd858a6cff160bebe9f33fadb8c4b1c4e", checked := Try.checked }
namespace Rows
def none {H : Type} : Left H := { results := [], args := [] }

/-- 'laws.FnFreeOf': WHATEVER THE INPUT: true; the input reads as it did. -/
def fnFreeOfSpec : ChangeSpec := { name := "fnFreeOf", fn := fun _ => fun
  | [d] => { results := [.lit (.bool true)], args := [d] }
  | _ => none }
def fnFreeOfRow : OpenClaim := { program := "ytpkelhmjemcogaa", sum := "553341d6435cecd915d8fd98bea4d84bd858a6cff160bebe9f33fadb8c4b1c4e", func := "loop.example/macroexpander/laws.FnFreeOf", spec := "fnFreeOf", recurses := true, apart := false }
def FnFreeOfSaid : Prop := fnFreeOfRow.holds Try.pinned (OpenSpec.ofChange fnFreeOfSpec)

/-- ITS FALSE NEIGHBOUR: 'it returns false'. Refute it at one input. -/
def fnFreeOfWrong : ChangeSpec := { name := "fnFreeOf", fn := fun _ => fun
  | [d] => { results := [.lit (.bool false)], args := [d] }
  | _ => none }
def FnFreeOfWrongFalsely : Prop := fnFreeOfRow.holds Try.pinned (OpenSpec.ofChange fnFreeOfWrong)

/-- 'laws.FnCoreParts': WHATEVER THE INPUT: true; the input reads as it did. -/
def fnCorePartsSpec : ChangeSpec := { name := "fnCoreParts", fn := fun _ => fun
  | [d] => { results := [.lit (.bool true)], args := [d] }
  | _ => none }
def fnCorePartsRow : OpenClaim := { program := "ytpkelhmjemcogaa", sum := "553341d6435cecd915d8fd98bea4d84bd858a6cff160bebe9f33fadb8c4b1c4e", func := "loop.example/macroexpander/laws.FnCoreParts", spec := "fnCoreParts", recurses := true, apart := false }
def FnCorePartsSaid : Prop := fnCorePartsRow.holds Try.pinned (OpenSpec.ofChange fnCorePartsSpec)

/-- ITS FALSE NEIGHBOUR: 'it returns false'. Refute it at one input. -/
def fnCorePartsWrong : ChangeSpec := { name := "fnCoreParts", fn := fun _ => fun
  | [d] => { results := [.lit (.bool false)], args := [d] }
  | _ => none }
def FnCorePartsWrongFalsely : Prop := fnCorePartsRow.holds Try.pinned (OpenSpec.ofChange fnCorePartsWrong)

/-- 'laws.FnExactCoreSize': WHATEVER THE INPUT: true; the input reads as it did. -/
def fnExactCoreSizeSpec : ChangeSpec := { name := "fnExactCoreSize", fn := fun _ => fun
  | [d] => { results := [.lit (.bool true)], args := [d] }
  | _ => none }
def fnExactCoreSizeRow : OpenClaim := { program := "ytpkelhmjemcogaa", sum := "553341d6435cecd915d8fd98bea4d84bd858a6cff160bebe9f33fadb8c4b1c4e", func := "loop.example/macroexpander/laws.FnExactCoreSize", spec := "fnExactCoreSize", recurses := true, loops := true, apart := false }
def FnExactCoreSizeSaid : Prop := fnExactCoreSizeRow.holds Try.pinned (OpenSpec.ofChange fnExactCoreSizeSpec)

/-- ITS FALSE NEIGHBOUR: 'it returns false'. Refute it at one input. -/
def fnExactCoreSizeWrong : ChangeSpec := { name := "fnExactCoreSize", fn := fun _ => fun
  | [d] => { results := [.lit (.bool false)], args := [d] }
  | _ => none }
def FnExactCoreSizeWrongFalsely : Prop := fnExactCoreSizeRow.holds Try.pinned (OpenSpec.ofChange fnExactCoreSizeWrong)

/-- 'laws.FnExactCoreSame': WHATEVER THE INPUT: true; the input reads as it did. -/
def fnExactCoreSameSpec : ChangeSpec := { name := "fnExactCoreSame", fn := fun _ => fun
  | [d1, d2] => { results := [.lit (.bool true)], args := [d1, d2] }
  | _ => none }
def fnExactCoreSameRow : OpenClaim := { program := "ytpkelhmjemcogaa", sum := "553341d6435cecd915d8fd98bea4d84bd858a6cff160bebe9f33fadb8c4b1c4e", func := "loop.example/macroexpander/laws.FnExactCoreSame", spec := "fnExactCoreSame", unfollowed := true, recurses := true, loops := true, apart := false }
def FnExactCoreSameSaid : Prop := fnExactCoreSameRow.holds Try.pinned (OpenSpec.ofChange fnExactCoreSameSpec)

/-- ITS FALSE NEIGHBOUR: 'it returns false'. Refute it at one input. -/
def fnExactCoreSameWrong : ChangeSpec := { name := "fnExactCoreSame", fn := fun _ => fun
  | [d1, d2] => { results := [.lit (.bool false)], args := [d1, d2] }
  | _ => none }
def FnExactCoreSameWrongFalsely : Prop := fnExactCoreSameRow.holds Try.pinned (OpenSpec.ofChange fnExactCoreSameWrong)

/- THE SECOND FORM. 'bulk': how many values and letters a reading holds, each counted each time it is reached (what is shared counts as often as it is met; a slice's spare places count too). A statement '..UptoSaid' is the law's where the arguments, and the package variables that the reading takes, are together of bulk at most 1048576: NARROWER than '..Said'. Prove '..Said' where nothing that the law and all that it calls make is longer than what came in: it says more and counts as full. Else prove '..UptoSaid'. A law counts once. -/
mutual
def uptoBulk {H : Type} : DataW H → Nat
  | .lit (.string bytes) => bytes.length + 1
  | .lit _ => 1
  | .nil => 1
  | .ptr d => uptoBulk d + 1
  | .slice elems spare => uptoBulkAll elems + uptoBulkAll spare + 1
  | .agg parts => uptoBulkAll parts + 1
  | .iface _ d => uptoBulk d + 1
  | .map entries => uptoBulkEntries entries + 1
  | .held _ => 1
def uptoBulkAll {H : Type} : List (DataW H) → Nat
  | [] => 0
  | d :: r => uptoBulk d + uptoBulkAll r
def uptoBulkEntries {H : Type} : List (Lit × DataW H) → Nat
  | [] => 0
  | x :: r => uptoBulkEntry x + uptoBulkEntries r
def uptoBulkEntry {H : Type} : Lit × DataW H → Nat
  | (.string bytes, d) => bytes.length + uptoBulk d + 1
  | (_, d) => uptoBulk d + 1
 end
def uptoSmall : (H : Type) → List (DataW H) → Bool := fun _ ds => decide (uptoBulkAll ds ≤ 1048576)
def OpenSpec.upto (s : _root_.Go.ChangeSpec) : _root_.Go.OpenSpec := { _root_.Go.OpenSpec.ofChange s with cond := some uptoSmall }

/-- 'laws.FnFreeOf', WHERE WHAT IT READS IS OF BULK AT MOST 1048576: true; the input reads as it did. -/
def fnFreeOfUptoRow : OpenClaim := { program := "ytpkelhmjemcogaa", sum := "553341d6435cecd915d8fd98bea4d84bd858a6cff160bebe9f33fadb8c4b1c4e", func := "loop.example/macroexpander/laws.FnFreeOf", spec := "fnFreeOf", recurses := true, apart := false, narrowed := true }
def FnFreeOfUptoSaid : Prop := fnFreeOfUptoRow.holds Try.pinned (OpenSpec.upto fnFreeOfSpec)

/-- 'laws.FnCoreParts', WHERE WHAT IT READS IS OF BULK AT MOST 1048576: true; the input reads as it did. -/
def fnCorePartsUptoRow : OpenClaim := { program := "ytpkelhmjemcogaa", sum := "553341d6435cecd915d8fd98bea4d84bd858a6cff160bebe9f33fadb8c4b1c4e", func := "loop.example/macroexpander/laws.FnCoreParts", spec := "fnCoreParts", recurses := true, apart := false, narrowed := true }
def FnCorePartsUptoSaid : Prop := fnCorePartsUptoRow.holds Try.pinned (OpenSpec.upto fnCorePartsSpec)

/-- 'laws.FnExactCoreSize', WHERE WHAT IT READS IS OF BULK AT MOST 1048576: true; the input reads as it did. -/
def fnExactCoreSizeUptoRow : OpenClaim := { program := "ytpkelhmjemcogaa", sum := "553341d6435cecd915d8fd98bea4d84bd858a6cff160bebe9f33fadb8c4b1c4e", func := "loop.example/macroexpander/laws.FnExactCoreSize", spec := "fnExactCoreSize", recurses := true, loops := true, apart := false, narrowed := true }
def FnExactCoreSizeUptoSaid : Prop := fnExactCoreSizeUptoRow.holds Try.pinned (OpenSpec.upto fnExactCoreSizeSpec)

/-- 'laws.FnExactCoreSame', WHERE WHAT IT READS IS OF BULK AT MOST 1048576: true; the input reads as it did. -/
def fnExactCoreSameUptoRow : OpenClaim := { program := "ytpkelhmjemcogaa", sum := "553341d6435cecd915d8fd98bea4d84bd858a6cff160bebe9f33fadb8c4b1c4e", func := "loop.example/macroexpander/laws.FnExactCoreSame", spec := "fnExactCoreSame", unfollowed := true, recurses := true, loops := true, apart := false, narrowed := true }
def FnExactCoreSameUptoSaid : Prop := fnExactCoreSameUptoRow.holds Try.pinned (OpenSpec.upto fnExactCoreSameSpec)

end Rows
end Go.Proofs.Ytpkelhmjemcogaa
