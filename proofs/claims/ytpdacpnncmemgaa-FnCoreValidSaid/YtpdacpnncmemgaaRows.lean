/-
  NARROWER THAN 'FOR EVERY INPUT', by the rows' own cells (each row's printed sentence says how): FnExactCoreValid: loops · FnExactCoreAlike: loops.
  DERIVED. THE GIVEN ROWS OF THIS SEAT. 7 by the template 'for every input the law returns true; each argument reads behind the call as it read before'; 0 by the template 'total and deterministic' (their statements: YtpdacpnncmemgaaTotals.lean).
  GIVEN WITH THE SEED: the statements are not yours to turn. If you find one false, say at which input.
  Laid BY PROGRAM, IN A SANDBOX (cutbox-rows.mjs): the forced cells as the released guide's own fill.sh prints them over the translation 651ebffb4ec74ff7… (all of the seat's roots in one cut). By AI agents, Wed Nov 11 2026. No macro, syntax, notation, axiom, sorry.
-/
import Derived.Test.YtpdacpnncmemgaaChecked
import GoSem.Claim
import GoSem.ClaimJoined
import GoSem.ClaimMapViews
import Derived.JoinedTies
import Derived.KernelRfl
namespace Go.Proofs.Ytpdacpnncmemgaa
/- THE CELL 'sum', in the pinned program and in every row, IS THE sha256 OF THE DUMP (.gsa) THAT YtpdacpnncmemgaaProg.lean LOADS. Nothing in Lean hashes anything: it is a label: what it is worth is what the hold of that sum in a sandbox is worth. -/
noncomputable def Try.pinned : Pinned := { name := "ytpdacpnncmemgaa", sum := "651ebffb4ec74ff71b5cefc556f660c4e6a5f05387cf77ecd537ca9ad2628c37", checked := Try.checked }
namespace Rows
def none {H : Type} : Left H := { results := [], args := [] }

/-- 'laws.FnCoreClosed': WHATEVER THE INPUT: true; the input reads as it did. -/
def fnCoreClosedSpec : ChangeSpec := { name := "fnCoreClosed", fn := fun _ => fun
  | [d] => { results := [.lit (.bool true)], args := [d] }
  | _ => none }
def fnCoreClosedRow : OpenClaim := { program := "ytpdacpnncmemgaa", sum := "651ebffb4ec74ff71b5cefc556f660c4e6a5f05387cf77ecd537ca9ad2628c37", func := "loop.example/macroexpander/laws.FnCoreClosed", spec := "fnCoreClosed", inPlace := ["internal/bytealg.IndexByteString"], unfollowed := true, recurses := true, apart := false }
def FnCoreClosedSaid : Prop := fnCoreClosedRow.holds Try.pinned (OpenSpec.ofChange fnCoreClosedSpec)

/-- ITS FALSE NEIGHBOUR: 'it returns false'. Refute it at one input. -/
def fnCoreClosedWrong : ChangeSpec := { name := "fnCoreClosed", fn := fun _ => fun
  | [d] => { results := [.lit (.bool false)], args := [d] }
  | _ => none }
def FnCoreClosedWrongFalsely : Prop := fnCoreClosedRow.holds Try.pinned (OpenSpec.ofChange fnCoreClosedWrong)

/-- 'laws.FnCoreValid': WHATEVER THE INPUT: true; the input reads as it did. -/
def fnCoreValidSpec : ChangeSpec := { name := "fnCoreValid", fn := fun _ => fun
  | [d] => { results := [.lit (.bool true)], args := [d] }
  | _ => none }
def fnCoreValidRow : OpenClaim := { program := "ytpdacpnncmemgaa", sum := "651ebffb4ec74ff71b5cefc556f660c4e6a5f05387cf77ecd537ca9ad2628c37", func := "loop.example/macroexpander/laws.FnCoreValid", spec := "fnCoreValid", inPlace := ["internal/bytealg.IndexByteString"], unfollowed := true, recurses := true, apart := false }
def FnCoreValidSaid : Prop := fnCoreValidRow.holds Try.pinned (OpenSpec.ofChange fnCoreValidSpec)

/-- ITS FALSE NEIGHBOUR: 'it returns false'. Refute it at one input. -/
def fnCoreValidWrong : ChangeSpec := { name := "fnCoreValid", fn := fun _ => fun
  | [d] => { results := [.lit (.bool false)], args := [d] }
  | _ => none }
def FnCoreValidWrongFalsely : Prop := fnCoreValidRow.holds Try.pinned (OpenSpec.ofChange fnCoreValidWrong)

/-- 'laws.FnExactCoreValid': WHATEVER THE INPUT: true; the input reads as it did. -/
def fnExactCoreValidSpec : ChangeSpec := { name := "fnExactCoreValid", fn := fun _ => fun
  | [d] => { results := [.lit (.bool true)], args := [d] }
  | _ => none }
def fnExactCoreValidRow : OpenClaim := { program := "ytpdacpnncmemgaa", sum := "651ebffb4ec74ff71b5cefc556f660c4e6a5f05387cf77ecd537ca9ad2628c37", func := "loop.example/macroexpander/laws.FnExactCoreValid", spec := "fnExactCoreValid", inPlace := ["internal/bytealg.IndexByteString"], unfollowed := true, recurses := true, loops := true, apart := false }
def FnExactCoreValidSaid : Prop := fnExactCoreValidRow.holds Try.pinned (OpenSpec.ofChange fnExactCoreValidSpec)

/-- ITS FALSE NEIGHBOUR: 'it returns false'. Refute it at one input. -/
def fnExactCoreValidWrong : ChangeSpec := { name := "fnExactCoreValid", fn := fun _ => fun
  | [d] => { results := [.lit (.bool false)], args := [d] }
  | _ => none }
def FnExactCoreValidWrongFalsely : Prop := fnExactCoreValidRow.holds Try.pinned (OpenSpec.ofChange fnExactCoreValidWrong)

/-- 'laws.FnAlikeSelf': WHATEVER THE INPUT: true; the input reads as it did. -/
def fnAlikeSelfSpec : ChangeSpec := { name := "fnAlikeSelf", fn := fun _ => fun
  | [d] => { results := [.lit (.bool true)], args := [d] }
  | _ => none }
def fnAlikeSelfRow : OpenClaim := { program := "ytpdacpnncmemgaa", sum := "651ebffb4ec74ff71b5cefc556f660c4e6a5f05387cf77ecd537ca9ad2628c37", func := "loop.example/macroexpander/laws.FnAlikeSelf", spec := "fnAlikeSelf", inPlace := ["internal/bytealg.IndexByteString"], unfollowed := true, recurses := true, apart := false }
def FnAlikeSelfSaid : Prop := fnAlikeSelfRow.holds Try.pinned (OpenSpec.ofChange fnAlikeSelfSpec)

/-- ITS FALSE NEIGHBOUR: 'it returns false'. Refute it at one input. -/
def fnAlikeSelfWrong : ChangeSpec := { name := "fnAlikeSelf", fn := fun _ => fun
  | [d] => { results := [.lit (.bool false)], args := [d] }
  | _ => none }
def FnAlikeSelfWrongFalsely : Prop := fnAlikeSelfRow.holds Try.pinned (OpenSpec.ofChange fnAlikeSelfWrong)

/-- 'laws.FnCoreAlike': WHATEVER THE INPUT: true; the input reads as it did. -/
def fnCoreAlikeSpec : ChangeSpec := { name := "fnCoreAlike", fn := fun _ => fun
  | [d] => { results := [.lit (.bool true)], args := [d] }
  | _ => none }
def fnCoreAlikeRow : OpenClaim := { program := "ytpdacpnncmemgaa", sum := "651ebffb4ec74ff71b5cefc556f660c4e6a5f05387cf77ecd537ca9ad2628c37", func := "loop.example/macroexpander/laws.FnCoreAlike", spec := "fnCoreAlike", inPlace := ["internal/bytealg.IndexByteString"], unfollowed := true, recurses := true, apart := false }
def FnCoreAlikeSaid : Prop := fnCoreAlikeRow.holds Try.pinned (OpenSpec.ofChange fnCoreAlikeSpec)

/-- ITS FALSE NEIGHBOUR: 'it returns false'. Refute it at one input. -/
def fnCoreAlikeWrong : ChangeSpec := { name := "fnCoreAlike", fn := fun _ => fun
  | [d] => { results := [.lit (.bool false)], args := [d] }
  | _ => none }
def FnCoreAlikeWrongFalsely : Prop := fnCoreAlikeRow.holds Try.pinned (OpenSpec.ofChange fnCoreAlikeWrong)

/-- 'laws.FnExactCoreAlike': WHATEVER THE INPUT: true; the input reads as it did. -/
def fnExactCoreAlikeSpec : ChangeSpec := { name := "fnExactCoreAlike", fn := fun _ => fun
  | [d1, d2] => { results := [.lit (.bool true)], args := [d1, d2] }
  | _ => none }
def fnExactCoreAlikeRow : OpenClaim := { program := "ytpdacpnncmemgaa", sum := "651ebffb4ec74ff71b5cefc556f660c4e6a5f05387cf77ecd537ca9ad2628c37", func := "loop.example/macroexpander/laws.FnExactCoreAlike", spec := "fnExactCoreAlike", inPlace := ["internal/bytealg.IndexByteString"], unfollowed := true, recurses := true, loops := true, apart := false }
def FnExactCoreAlikeSaid : Prop := fnExactCoreAlikeRow.holds Try.pinned (OpenSpec.ofChange fnExactCoreAlikeSpec)

/-- ITS FALSE NEIGHBOUR: 'it returns false'. Refute it at one input. -/
def fnExactCoreAlikeWrong : ChangeSpec := { name := "fnExactCoreAlike", fn := fun _ => fun
  | [d1, d2] => { results := [.lit (.bool false)], args := [d1, d2] }
  | _ => none }
def FnExactCoreAlikeWrongFalsely : Prop := fnExactCoreAlikeRow.holds Try.pinned (OpenSpec.ofChange fnExactCoreAlikeWrong)

/-- 'laws.FnNumberOrder': WHATEVER THE INPUT: true; the input reads as it did. -/
def fnNumberOrderSpec : ChangeSpec := { name := "fnNumberOrder", fn := fun _ => fun
  | [d] => { results := [.lit (.bool true)], args := [d] }
  | _ => none }
def fnNumberOrderRow : OpenClaim := { program := "ytpdacpnncmemgaa", sum := "651ebffb4ec74ff71b5cefc556f660c4e6a5f05387cf77ecd537ca9ad2628c37", func := "loop.example/macroexpander/laws.FnNumberOrder", spec := "fnNumberOrder", inPlace := ["internal/bytealg.IndexByteString"], unfollowed := true, recurses := true, apart := false }
def FnNumberOrderSaid : Prop := fnNumberOrderRow.holds Try.pinned (OpenSpec.ofChange fnNumberOrderSpec)

/-- ITS FALSE NEIGHBOUR: 'it returns false'. Refute it at one input. -/
def fnNumberOrderWrong : ChangeSpec := { name := "fnNumberOrder", fn := fun _ => fun
  | [d] => { results := [.lit (.bool false)], args := [d] }
  | _ => none }
def FnNumberOrderWrongFalsely : Prop := fnNumberOrderRow.holds Try.pinned (OpenSpec.ofChange fnNumberOrderWrong)

/- THE SECOND FORM. 'bulk': how many values and letters a reading holds, each counted each time it is reached (what is shared counts as often as it is met; a slice's spare places count too). A statement '..UptoSaid' is the law's where the arguments, and the package variables that the reading takes, are together of bulk at most 1048576: NARROWER than '..Said'. Prove '..Said' where nothing that the law and all that it calls make is longer than what came in: it says more and counts as full. Else prove '..UptoSaid'. A law counts once. -/
mutual
def uptoBulk {H : Type} : DataW H → Nat
  | .lit (.string bytes) => bytes.length + 1
  | .lit _ => 1
  | .nil => 1
  | .ptr d => uptoBulk d + 1
  | .slice elems spare => uptoBulkAll elems + uptoBulkAll spare + 1
  | .agg parts => uptoBulkAll parts + 1
  | .iface _ d => uptoBulk d + 1
  | .map entries => uptoBulkEntries entries + 1
  | .held _ => 1
def uptoBulkAll {H : Type} : List (DataW H) → Nat
  | [] => 0
  | d :: r => uptoBulk d + uptoBulkAll r
def uptoBulkEntries {H : Type} : List (Lit × DataW H) → Nat
  | [] => 0
  | x :: r => uptoBulkEntry x + uptoBulkEntries r
def uptoBulkEntry {H : Type} : Lit × DataW H → Nat
  | (.string bytes, d) => bytes.length + uptoBulk d + 1
  | (_, d) => uptoBulk d + 1
 end
def uptoSmall : (H : Type) → List (DataW H) → Bool := fun _ ds => decide (uptoBulkAll ds ≤ 1048576)
def OpenSpec.upto (s : _root_.Go.ChangeSpec) : _root_.Go.OpenSpec := { _root_.Go.OpenSpec.ofChange s with cond := some uptoSmall }

/-- 'laws.FnCoreClosed', WHERE WHAT IT READS IS OF BULK AT MOST 1048576: true; the input reads as it did. -/
def fnCoreClosedUptoRow : OpenClaim := { program := "ytpdacpnncmemgaa", sum := "651ebffb4ec74ff71b5cefc556f660c4e6a5f05387cf77ecd537ca9ad2628c37", func := "loop.example/macroexpander/laws.FnCoreClosed", spec := "fnCoreClosed", inPlace := ["internal/bytealg.IndexByteString"], unfollowed := true, recurses := true, apart := false, narrowed := true }
def FnCoreClosedUptoSaid : Prop := fnCoreClosedUptoRow.holds Try.pinned (OpenSpec.upto fnCoreClosedSpec)

/-- 'laws.FnCoreValid', WHERE WHAT IT READS IS OF BULK AT MOST 1048576: true; the input reads as it did. -/
def fnCoreValidUptoRow : OpenClaim := { program := "ytpdacpnncmemgaa", sum := "651ebffb4ec74ff71b5cefc556f660c4e6a5f05387cf77ecd537ca9ad2628c37", func := "loop.example/macroexpander/laws.FnCoreValid", spec := "fnCoreValid", inPlace := ["internal/bytealg.IndexByteString"], unfollowed := true, recurses := true, apart := false, narrowed := true }
def FnCoreValidUptoSaid : Prop := fnCoreValidUptoRow.holds Try.pinned (OpenSpec.upto fnCoreValidSpec)

/-- 'laws.FnExactCoreValid', WHERE WHAT IT READS IS OF BULK AT MOST 1048576: true; the input reads as it did. -/
def fnExactCoreValidUptoRow : OpenClaim := { program := "ytpdacpnncmemgaa", sum := "651ebffb4ec74ff71b5cefc556f660c4e6a5f05387cf77ecd537ca9ad2628c37", func := "loop.example/macroexpander/laws.FnExactCoreValid", spec := "fnExactCoreValid", inPlace := ["internal/bytealg.IndexByteString"], unfollowed := true, recurses := true, loops := true, apart := false, narrowed := true }
def FnExactCoreValidUptoSaid : Prop := fnExactCoreValidUptoRow.holds Try.pinned (OpenSpec.upto fnExactCoreValidSpec)

/-- 'laws.FnAlikeSelf', WHERE WHAT IT READS IS OF BULK AT MOST 1048576: true; the input reads as it did. -/
def fnAlikeSelfUptoRow : OpenClaim := { program := "ytpdacpnncmemgaa", sum := "651ebffb4ec74ff71b5cefc556f660c4e6a5f05387cf77ecd537ca9ad2628c37", func := "loop.example/macroexpander/laws.FnAlikeSelf", spec := "fnAlikeSelf", inPlace := ["internal/bytealg.IndexByteString"], unfollowed := true, recurses := true, apart := false, narrowed := true }
def FnAlikeSelfUptoSaid : Prop := fnAlikeSelfUptoRow.holds Try.pinned (OpenSpec.upto fnAlikeSelfSpec)

/-- 'laws.FnCoreAlike', WHERE WHAT IT READS IS OF BULK AT MOST 1048576: true; the input reads as it did. -/
def fnCoreAlikeUptoRow : OpenClaim := { program := "ytpdacpnncmemgaa", sum := "651ebffb4ec74ff71b5cefc556f660c4e6a5f05387cf77ecd537ca9ad2628c37", func := "loop.example/macroexpander/laws.FnCoreAlike", spec := "fnCoreAlike", inPlace := ["internal/bytealg.IndexByteString"], unfollowed := true, recurses := true, apart := false, narrowed := true }
def FnCoreAlikeUptoSaid : Prop := fnCoreAlikeUptoRow.holds Try.pinned (OpenSpec.upto fnCoreAlikeSpec)

/-- 'laws.FnExactCoreAlike', WHERE WHAT IT READS IS OF BULK AT MOST 1048576: true; the input reads as it did. -/
def fnExactCoreAlikeUptoRow : OpenClaim := { program := "ytpdacpnncmemgaa", sum := "651ebffb4ec74ff71b5cefc556f660c4e6a5f05387cf77ecd537ca9ad2628c37", func := "loop.example/macroexpander/laws.FnExactCoreAlike", spec := "fnExactCoreAlike", inPlace := ["internal/bytealg.IndexByteString"], unfollowed := true, recurses := true, loops := true, apart := false, narrowed := true }
def FnExactCoreAlikeUptoSaid : Prop := fnExactCoreAlikeUptoRow.holds Try.pinned (OpenSpec.upto fnExactCoreAlikeSpec)

/-- 'laws.FnNumberOrder', WHERE WHAT IT READS IS OF BULK AT MOST 1048576: true; the input reads as it did. -/
def fnNumberOrderUptoRow : OpenClaim := { program := "ytpdacpnncmemgaa", sum := "651ebffb4ec74ff71b5cefc556f660c4e6a5f05387cf77ecd537ca9ad2628c37", func := "loop.example/macroexpander/laws.FnNumberOrder", spec := "fnNumberOrder", inPlace := ["internal/bytealg.IndexByteString"], unfollowed := true, recurses := true, apart := false, narrowed := true }
def FnNumberOrderUptoSaid : Prop := fnNumberOrderUptoRow.holds Try.pinned (OpenSpec.upto fnNumberOrderSpec)

end Rows
end Go.Proofs.Ytpdacpnncmemgaa
