/- A part of the proof: what the functions that the law calls answer, as pure values. -/
import Derived.Test.YtpdacpnncmemgaaK0b7006a29a35
import Derived.Test.YtpdacpnncmemgaaProg
set_option linter.unusedSimpArgs false
set_option linter.unusedVariables false
set_option maxRecDepth 100000
set_option maxHeartbeats 4000000
namespace Go.Abs
open Go.Proofs
theorem yA41 : aggOf Try.prog 41 = some true := by kernel_rfl
theorem yS41 : szOf Try.prog 41 = some 11 := by kernel_rfl
theorem yF41_2 : fldOf Try.prog 41 2 = some (2, 9) := by kernel_rfl
theorem yA9 : aggOf Try.prog 9 = some false := by kernel_rfl
theorem yU9 : Try.prog.underlying 9 = some .string := by kernel_rfl
theorem yF41_4 : fldOf Try.prog 41 4 = some (4, 23) := by kernel_rfl
theorem yA23 : aggOf Try.prog 23 = some false := by kernel_rfl
theorem yU23 : Try.prog.underlying 23 = some (.slice 3) := by kernel_rfl
theorem yF41_5 : fldOf Try.prog 41 5 = some (5, 38) := by kernel_rfl
theorem yA38 : aggOf Try.prog 38 = some true := by kernel_rfl
theorem yS38 : szOf Try.prog 38 = some 5 := by kernel_rfl
theorem yF38_1 : fldOf Try.prog 38 1 = some (1, 9) := by kernel_rfl
theorem yF38_3 : fldOf Try.prog 38 3 = some (3, 23) := by kernel_rfl
theorem yF38_4 : fldOf Try.prog 38 4 = some (4, 36) := by kernel_rfl
theorem yA36 : aggOf Try.prog 36 = some false := by kernel_rfl
theorem yU36 : Try.prog.underlying 36 = some (.slice 38) := by kernel_rfl
theorem yE36 : elOf Try.prog 36 = some (38, 5) := by kernel_rfl
theorem yF41_6 : fldOf Try.prog 41 6 = some (10, 39) := by kernel_rfl
theorem yA39 : aggOf Try.prog 39 = some false := by kernel_rfl
theorem yU39 : Try.prog.underlying 39 = some (.slice 41) := by kernel_rfl
theorem yE39 : elOf Try.prog 39 = some (41, 11) := by kernel_rfl
theorem yZ29 : zcells Try.prog 29 = some [.t (.sc (.int .i64 0)), .t (.sc (.int .i64 0)), .t (.sc (.str ⟨#[]⟩)), .t (.sc (.int .i64 0)), .nl, .t (.sc (.int .i64 0)), .t (.sc (.str ⟨#[]⟩)), .t (.sc (.int .i64 0)), .nl, .nl, .nl] := by kernel_rfl
theorem yF41_0 : fldOf Try.prog 41 0 = some (0, 3) := by kernel_rfl
theorem yA3 : aggOf Try.prog 3 = some false := by kernel_rfl
theorem yF29_0 : fldOf Try.prog 29 0 = some (0, 3) := by kernel_rfl
theorem yS3 : szOf Try.prog 3 = some 1 := by kernel_rfl
theorem yF41_1 : fldOf Try.prog 41 1 = some (1, 3) := by kernel_rfl
theorem yF29_1 : fldOf Try.prog 29 1 = some (1, 3) := by kernel_rfl
theorem yF29_2 : fldOf Try.prog 29 2 = some (2, 9) := by kernel_rfl
theorem yS9 : szOf Try.prog 9 = some 1 := by kernel_rfl
theorem yF41_3 : fldOf Try.prog 41 3 = some (3, 3) := by kernel_rfl
theorem yF29_3 : fldOf Try.prog 29 3 = some (3, 3) := by kernel_rfl
theorem yP23 : apOf Try.prog 23 = some (3, 8, 1) := by kernel_rfl
theorem yR3 : zrow Try.prog 3 = some [(.sc (.int .i64 0))] := by kernel_rfl
theorem yE23 : elOf Try.prog 23 = some (3, 1) := by kernel_rfl
theorem yF29_4 : fldOf Try.prog 29 4 = some (4, 23) := by kernel_rfl
theorem yS23 : szOf Try.prog 23 = some 1 := by kernel_rfl
theorem yZ26 : zcells Try.prog 26 = some [.t (.sc (.int .i64 0)), .t (.sc (.str ⟨#[]⟩)), .t (.sc (.int .i64 0)), .nl, .nl] := by kernel_rfl
theorem yF38_0 : fldOf Try.prog 38 0 = some (0, 3) := by kernel_rfl
theorem yF26_0 : fldOf Try.prog 26 0 = some (0, 3) := by kernel_rfl
theorem yF26_1 : fldOf Try.prog 26 1 = some (1, 9) := by kernel_rfl
theorem yF38_2 : fldOf Try.prog 38 2 = some (2, 3) := by kernel_rfl
theorem yF26_2 : fldOf Try.prog 26 2 = some (2, 3) := by kernel_rfl
theorem yF26_3 : fldOf Try.prog 26 3 = some (3, 23) := by kernel_rfl
theorem yP24 : apOf Try.prog 24 = some (26, 80, 5) := by kernel_rfl
theorem yR26 : zrow Try.prog 26 = some [(.sc (.int .i64 0)), (.sc (.str ⟨#[]⟩)), (.sc (.int .i64 0)), .sl [], .sl []] := by kernel_rfl
theorem yE24 : elOf Try.prog 24 = some (26, 5) := by kernel_rfl
theorem yS26 : szOf Try.prog 26 = some 5 := by kernel_rfl
theorem yF26_4 : fldOf Try.prog 26 4 = some (4, 24) := by kernel_rfl
theorem yS24 : szOf Try.prog 24 = some 1 := by kernel_rfl
theorem yA26 : aggOf Try.prog 26 = some true := by kernel_rfl
theorem yF29_5 : fldOf Try.prog 29 5 = some (5, 26) := by kernel_rfl
theorem yP27 : apOf Try.prog 27 = some (29, 168, 11) := by kernel_rfl
theorem yR29 : zrow Try.prog 29 = some [(.sc (.int .i64 0)), (.sc (.int .i64 0)), (.sc (.str ⟨#[]⟩)), (.sc (.int .i64 0)), .sl [], (.sc (.int .i64 0)), (.sc (.str ⟨#[]⟩)), (.sc (.int .i64 0)), .sl [], .sl [], .sl []] := by kernel_rfl
theorem yE27 : elOf Try.prog 27 = some (29, 11) := by kernel_rfl
theorem yS29 : szOf Try.prog 29 = some 11 := by kernel_rfl
theorem yF29_6 : fldOf Try.prog 29 6 = some (10, 27) := by kernel_rfl
theorem yS27 : szOf Try.prog 27 = some 1 := by kernel_rfl
theorem yA29 : aggOf Try.prog 29 = some true := by kernel_rfl
theorem yA27 : aggOf Try.prog 27 = some false := by kernel_rfl
theorem yU27 : Try.prog.underlying 27 = some (.slice 29) := by kernel_rfl
theorem yMix : Try.prog.follows .mixedOrders = true := by kernel_rfl
theorem yA24 : aggOf Try.prog 24 = some false := by kernel_rfl
theorem yU24 : Try.prog.underlying 24 = some (.slice 26) := by kernel_rfl
theorem yL26 : placesOf Try.prog 26 = some [(0, 1), (1, 1), (2, 1), (3, 1), (4, 1)] := by kernel_rfl
theorem yI26 : ∃ x, Try.prog.info? 26 = some x := Option.isSome_iff_exists.mp (by kernel_rfl : (Try.prog.info? 26).isSome = true)
theorem yZ3 : zcells Try.prog 3 = some [.t (.sc (.int .i64 0))] := by kernel_rfl
theorem yL29 : placesOf Try.prog 29 = some [(0, 1), (1, 1), (2, 1), (3, 1), (4, 1), (5, 5), (10, 1)] := by kernel_rfl
theorem yZ23 : zcells Try.prog 23 = some [.nl] := by kernel_rfl
theorem yI3 : ∃ x, Try.prog.info? 3 = some x := Option.isSome_iff_exists.mp (by kernel_rfl : (Try.prog.info? 3).isSome = true)
theorem yU4 : Try.prog.underlying 4 = some .bool := by kernel_rfl
theorem yU22 : Try.prog.underlying 22 = some (.slice 5) := by kernel_rfl
theorem yE22 : elOf Try.prog 22 = some (5, 1) := by kernel_rfl
theorem yZ87 : zcells Try.prog 87 = some [.nl, .t (.sc (.int .i64 0))] := by kernel_rfl
theorem yL87 : placesOf Try.prog 87 = some [(0, 1), (1, 1)] := by kernel_rfl
theorem yF87_1 : fldOf Try.prog 87 1 = some (1, 3) := by kernel_rfl
theorem yF87_0 : fldOf Try.prog 87 0 = some (0, 22) := by kernel_rfl
theorem yA22 : aggOf Try.prog 22 = some false := by kernel_rfl
theorem yA5 : aggOf Try.prog 5 = some false := by kernel_rfl
theorem yU5 : Try.prog.underlying 5 = some (.int .u8) := by kernel_rfl
theorem yU3 : Try.prog.underlying 3 = some (.int .i64) := by kernel_rfl
theorem yP90 : apOf Try.prog 90 = some (9, 16, 1) := by kernel_rfl
theorem yR9 : zrow Try.prog 9 = some [(.sc (.str ⟨#[]⟩))] := by kernel_rfl
theorem yU90 : Try.prog.underlying 90 = some (.slice 9) := by kernel_rfl
theorem yE90 : elOf Try.prog 90 = some (9, 1) := by kernel_rfl
theorem yI29 : ∃ x, Try.prog.info? 29 = some x := Option.isSome_iff_exists.mp (by kernel_rfl : (Try.prog.info? 29).isSome = true)
theorem yM80 : mapII Try.prog 80 = true := by kernel_rfl
end Go.Abs
