/- A part of the proof: what the functions that the law calls answer, as pure values. -/
import Derived.Test.YtidbdmpbcpanjaaGreatDoorK064a2fe3a5b4
import Derived.Test.YtidbdmpbcpanjaaGreatDoorProg
set_option linter.unusedSimpArgs false
set_option linter.unusedVariables false
set_option maxRecDepth 100000
set_option maxHeartbeats 4000000
namespace Go.Abs
open Go.Proofs
theorem yU22 : Tryz.prog.underlying 22 = some (.slice 5) := by kernel_rfl
theorem yZ26 : zcells Tryz.prog 26 = some [.t (.sc (.int .i64 0)), .t (.sc (.str ⟨#[]⟩)), .t (.sc (.int .i64 0)), .nl, .nl] := by kernel_rfl
theorem yE22 : elOf Tryz.prog 22 = some (5, 1) := by kernel_rfl
theorem yZ72 : zcells Tryz.prog 72 = some [.nl, .t (.sc (.int .i64 0))] := by kernel_rfl
theorem yL72 : placesOf Tryz.prog 72 = some [(0, 1), (1, 1)] := by kernel_rfl
theorem yP23 : apOf Tryz.prog 23 = some (3, 8, 1) := by kernel_rfl
theorem yR3 : zrow Tryz.prog 3 = some [(.sc (.int .i64 0))] := by kernel_rfl
theorem yU23 : Tryz.prog.underlying 23 = some (.slice 3) := by kernel_rfl
theorem yF72_1 : fldOf Tryz.prog 72 1 = some (1, 3) := by kernel_rfl
theorem yA3 : aggOf Tryz.prog 3 = some false := by kernel_rfl
theorem yS3 : szOf Tryz.prog 3 = some 1 := by kernel_rfl
theorem yF72_0 : fldOf Tryz.prog 72 0 = some (0, 22) := by kernel_rfl
theorem yA22 : aggOf Tryz.prog 22 = some false := by kernel_rfl
theorem yA5 : aggOf Tryz.prog 5 = some false := by kernel_rfl
theorem yU5 : Tryz.prog.underlying 5 = some (.int .u8) := by kernel_rfl
theorem yU3 : Tryz.prog.underlying 3 = some (.int .i64) := by kernel_rfl
theorem yMix : Tryz.prog.follows .mixedOrders = true := by kernel_rfl
theorem yE23 : elOf Tryz.prog 23 = some (3, 1) := by kernel_rfl
theorem yL26 : placesOf Tryz.prog 26 = some [(0, 1), (1, 1), (2, 1), (3, 1), (4, 1)] := by kernel_rfl
theorem yS26 : szOf Tryz.prog 26 = some 5 := by kernel_rfl
theorem yA26 : aggOf Tryz.prog 26 = some true := by kernel_rfl
theorem yP52 : apOf Tryz.prog 52 = some (9, 16, 1) := by kernel_rfl
theorem yR9 : zrow Tryz.prog 9 = some [(.sc (.str ⟨#[]⟩))] := by kernel_rfl
theorem yU52 : Tryz.prog.underlying 52 = some (.slice 9) := by kernel_rfl
theorem yE52 : elOf Tryz.prog 52 = some (9, 1) := by kernel_rfl
theorem yA9 : aggOf Tryz.prog 9 = some false := by kernel_rfl
theorem yF26_4 : fldOf Tryz.prog 26 4 = some (4, 24) := by kernel_rfl
theorem yA24 : aggOf Tryz.prog 24 = some false := by kernel_rfl
theorem yP24 : apOf Tryz.prog 24 = some (26, 80, 5) := by kernel_rfl
theorem yR26 : zrow Tryz.prog 26 = some [(.sc (.int .i64 0)), (.sc (.str ⟨#[]⟩)), (.sc (.int .i64 0)), .sl [], .sl []] := by kernel_rfl
theorem yS24 : szOf Tryz.prog 24 = some 1 := by kernel_rfl
theorem yI26 : ∃ x, Tryz.prog.info? 26 = some x := Option.isSome_iff_exists.mp (by kernel_rfl : (Tryz.prog.info? 26).isSome = true)
theorem yF26_0 : fldOf Tryz.prog 26 0 = some (0, 3) := by kernel_rfl
theorem yF26_1 : fldOf Tryz.prog 26 1 = some (1, 9) := by kernel_rfl
theorem yF26_2 : fldOf Tryz.prog 26 2 = some (2, 3) := by kernel_rfl
theorem yF26_3 : fldOf Tryz.prog 26 3 = some (3, 23) := by kernel_rfl
theorem yA23 : aggOf Tryz.prog 23 = some false := by kernel_rfl
theorem yU24 : Tryz.prog.underlying 24 = some (.slice 26) := by kernel_rfl
theorem yE24 : elOf Tryz.prog 24 = some (26, 5) := by kernel_rfl
theorem yP76 : apOf Tryz.prog 76 = some (23, 24, 1) := by kernel_rfl
theorem yR23 : zrow Tryz.prog 23 = some [.sl []] := by kernel_rfl
theorem yU76 : Tryz.prog.underlying 76 = some (.slice 23) := by kernel_rfl
theorem yE76 : elOf Tryz.prog 76 = some (23, 1) := by kernel_rfl
theorem yS23 : szOf Tryz.prog 23 = some 1 := by kernel_rfl
theorem yS9 : szOf Tryz.prog 9 = some 1 := by kernel_rfl
theorem yZ3 : zcells Tryz.prog 3 = some [.t (.sc (.int .i64 0))] := by kernel_rfl
theorem yU9 : Tryz.prog.underlying 9 = some .string := by kernel_rfl
theorem yP22 : apOf Tryz.prog 22 = some (5, 1, 1) := by kernel_rfl
theorem yR5 : zrow Tryz.prog 5 = some [(.sc (.int .u8 0))] := by kernel_rfl
theorem yZ38 : zcells Tryz.prog 38 = some [.t (.sc (.str ⟨#[]⟩)), .t (.sc (.bool false))] := by kernel_rfl
theorem yL38 : placesOf Tryz.prog 38 = some [(0, 1), (1, 1)] := by kernel_rfl
theorem yF38_0 : fldOf Tryz.prog 38 0 = some (0, 9) := by kernel_rfl
theorem yF38_1 : fldOf Tryz.prog 38 1 = some (1, 4) := by kernel_rfl
theorem yS4 : szOf Tryz.prog 4 = some 1 := by kernel_rfl
theorem yA4 : aggOf Tryz.prog 4 = some false := by kernel_rfl
theorem yI3 : ∃ x, Tryz.prog.info? 3 = some x := Option.isSome_iff_exists.mp (by kernel_rfl : (Tryz.prog.info? 3).isSome = true)
theorem yU4 : Tryz.prog.underlying 4 = some .bool := by kernel_rfl
end Go.Abs
