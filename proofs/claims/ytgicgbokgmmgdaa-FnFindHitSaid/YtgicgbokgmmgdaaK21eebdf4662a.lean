/- A part of the proof: what the functions that the law calls answer, as pure values. -/
import Derived.Test.YtgicgbokgmmgdaaK29380fbb4cbe
import Derived.Test.YtgicgbokgmmgdaaProg
set_option linter.unusedSimpArgs false
set_option linter.unusedVariables false
set_option maxRecDepth 100000
set_option maxHeartbeats 4000000
namespace Go.Abs
open Go.Proofs
theorem yA25 : aggOf Try.prog 25 = some true := by kernel_rfl
theorem yS25 : szOf Try.prog 25 = some 5 := by kernel_rfl
theorem yF25_1 : fldOf Try.prog 25 1 = some (1, 9) := by kernel_rfl
theorem yA9 : aggOf Try.prog 9 = some false := by kernel_rfl
theorem yU9 : Try.prog.underlying 9 = some .string := by kernel_rfl
theorem yF25_3 : fldOf Try.prog 25 3 = some (3, 22) := by kernel_rfl
theorem yA22 : aggOf Try.prog 22 = some false := by kernel_rfl
theorem yU22 : Try.prog.underlying 22 = some (.slice 3) := by kernel_rfl
theorem yF25_4 : fldOf Try.prog 25 4 = some (4, 23) := by kernel_rfl
theorem yA23 : aggOf Try.prog 23 = some false := by kernel_rfl
theorem yU23 : Try.prog.underlying 23 = some (.slice 25) := by kernel_rfl
theorem yE23 : elOf Try.prog 23 = some (25, 5) := by kernel_rfl
theorem yU26 : Try.prog.underlying 26 = some (.slice 76) := by kernel_rfl
theorem yE26 : elOf Try.prog 26 = some (76, 12) := by kernel_rfl
theorem yA76 : aggOf Try.prog 76 = some true := by kernel_rfl
theorem yS76 : szOf Try.prog 76 = some 12 := by kernel_rfl
theorem yF76_0 : fldOf Try.prog 76 0 = some (0, 25) := by kernel_rfl
theorem yF76_2 : fldOf Try.prog 76 2 = some (6, 25) := by kernel_rfl
theorem yF76_3 : fldOf Try.prog 76 3 = some (11, 26) := by kernel_rfl
theorem yA26 : aggOf Try.prog 26 = some false := by kernel_rfl
theorem yZ32 : zcells Try.prog 32 = some [.t (.sc (.int .i64 0)), .t (.sc (.str ⟨#[]⟩)), .t (.sc (.int .i64 0)), .nl, .nl] := by kernel_rfl
theorem yF25_0 : fldOf Try.prog 25 0 = some (0, 3) := by kernel_rfl
theorem yA3 : aggOf Try.prog 3 = some false := by kernel_rfl
theorem yF32_0 : fldOf Try.prog 32 0 = some (0, 3) := by kernel_rfl
theorem yS3 : szOf Try.prog 3 = some 1 := by kernel_rfl
theorem yF32_1 : fldOf Try.prog 32 1 = some (1, 9) := by kernel_rfl
theorem yS9 : szOf Try.prog 9 = some 1 := by kernel_rfl
theorem yF25_2 : fldOf Try.prog 25 2 = some (2, 3) := by kernel_rfl
theorem yF32_2 : fldOf Try.prog 32 2 = some (2, 3) := by kernel_rfl
theorem yP22 : apOf Try.prog 22 = some (3, 8, 1) := by kernel_rfl
theorem yR3 : zrow Try.prog 3 = some [(.sc (.int .i64 0))] := by kernel_rfl
theorem yE22 : elOf Try.prog 22 = some (3, 1) := by kernel_rfl
theorem yF32_3 : fldOf Try.prog 32 3 = some (3, 22) := by kernel_rfl
theorem yS22 : szOf Try.prog 22 = some 1 := by kernel_rfl
theorem yP30 : apOf Try.prog 30 = some (32, 80, 5) := by kernel_rfl
theorem yR32 : zrow Try.prog 32 = some [(.sc (.int .i64 0)), (.sc (.str ⟨#[]⟩)), (.sc (.int .i64 0)), .sl [], .sl []] := by kernel_rfl
theorem yE30 : elOf Try.prog 30 = some (32, 5) := by kernel_rfl
theorem yS32 : szOf Try.prog 32 = some 5 := by kernel_rfl
theorem yF32_4 : fldOf Try.prog 32 4 = some (4, 30) := by kernel_rfl
theorem yS30 : szOf Try.prog 30 = some 1 := by kernel_rfl
theorem yA32 : aggOf Try.prog 32 = some true := by kernel_rfl
theorem yP34 : apOf Try.prog 34 = some (65, 192, 12) := by kernel_rfl
theorem yR65 : zrow Try.prog 65 = some [(.sc (.int .i64 0)), (.sc (.str ⟨#[]⟩)), (.sc (.int .i64 0)), .sl [], .sl [], (.sc (.int .i64 0)), (.sc (.int .i64 0)), (.sc (.str ⟨#[]⟩)), (.sc (.int .i64 0)), .sl [], .sl [], .sl []] := by kernel_rfl
theorem yZ65 : zcells Try.prog 65 = some [.t (.sc (.int .i64 0)), .t (.sc (.str ⟨#[]⟩)), .t (.sc (.int .i64 0)), .nl, .nl, .t (.sc (.int .i64 0)), .t (.sc (.int .i64 0)), .t (.sc (.str ⟨#[]⟩)), .t (.sc (.int .i64 0)), .nl, .nl, .nl] := by kernel_rfl
theorem yF65_0 : fldOf Try.prog 65 0 = some (0, 32) := by kernel_rfl
theorem yF76_1 : fldOf Try.prog 76 1 = some (5, 3) := by kernel_rfl
theorem yF65_1 : fldOf Try.prog 65 1 = some (5, 3) := by kernel_rfl
theorem yF65_2 : fldOf Try.prog 65 2 = some (6, 32) := by kernel_rfl
theorem yF65_3 : fldOf Try.prog 65 3 = some (11, 34) := by kernel_rfl
theorem yS34 : szOf Try.prog 34 = some 1 := by kernel_rfl
theorem yA65 : aggOf Try.prog 65 = some true := by kernel_rfl
theorem yS65 : szOf Try.prog 65 = some 12 := by kernel_rfl
theorem yE34 : elOf Try.prog 34 = some (65, 12) := by kernel_rfl
theorem yMix : Try.prog.follows .mixedOrders = true := by kernel_rfl
theorem yA30 : aggOf Try.prog 30 = some false := by kernel_rfl
theorem yU30 : Try.prog.underlying 30 = some (.slice 32) := by kernel_rfl
theorem yU34 : Try.prog.underlying 34 = some (.slice 65) := by kernel_rfl
theorem yA34 : aggOf Try.prog 34 = some false := by kernel_rfl
theorem yL32 : placesOf Try.prog 32 = some [(0, 1), (1, 1), (2, 1), (3, 1), (4, 1)] := by kernel_rfl
theorem yL65 : placesOf Try.prog 65 = some [(0, 5), (5, 1), (6, 5), (11, 1)] := by kernel_rfl
theorem yZ3 : zcells Try.prog 3 = some [.t (.sc (.int .i64 0))] := by kernel_rfl
theorem yZ4 : zcells Try.prog 4 = some [.t (.sc (.bool false))] := by kernel_rfl
theorem yS4 : szOf Try.prog 4 = some 1 := by kernel_rfl
theorem yA4 : aggOf Try.prog 4 = some false := by kernel_rfl
theorem yU4 : Try.prog.underlying 4 = some .bool := by kernel_rfl
theorem yA40 : aggOf Try.prog 40 = some true := by kernel_rfl
theorem yS40 : szOf Try.prog 40 = some 10 := by kernel_rfl
theorem yF40_0 : fldOf Try.prog 40 0 = some (0, 25) := by kernel_rfl
theorem yF40_1 : fldOf Try.prog 40 1 = some (5, 25) := by kernel_rfl
theorem yZ45 : zcells Try.prog 45 = some [.t (.sc (.int .i64 0)), .t (.sc (.str ⟨#[]⟩)), .t (.sc (.int .i64 0)), .nl, .nl, .t (.sc (.int .i64 0)), .t (.sc (.str ⟨#[]⟩)), .t (.sc (.int .i64 0)), .nl, .nl] := by kernel_rfl
theorem yF45_0 : fldOf Try.prog 45 0 = some (0, 32) := by kernel_rfl
theorem yF45_1 : fldOf Try.prog 45 1 = some (5, 32) := by kernel_rfl
theorem yA45 : aggOf Try.prog 45 = some true := by kernel_rfl
theorem yS45 : szOf Try.prog 45 = some 10 := by kernel_rfl
theorem yZ30 : zcells Try.prog 30 = some [.nl] := by kernel_rfl
theorem yZ22 : zcells Try.prog 22 = some [.nl] := by kernel_rfl
theorem yU51 : Try.prog.underlying 51 = some (.slice 5) := by kernel_rfl
theorem yE51 : elOf Try.prog 51 = some (5, 1) := by kernel_rfl
theorem yZ125 : zcells Try.prog 125 = some [.nl, .t (.sc (.int .i64 0))] := by kernel_rfl
theorem yL125 : placesOf Try.prog 125 = some [(0, 1), (1, 1)] := by kernel_rfl
theorem yP95 : apOf Try.prog 95 = some (9, 16, 1) := by kernel_rfl
theorem yR9 : zrow Try.prog 9 = some [(.sc (.str ⟨#[]⟩))] := by kernel_rfl
theorem yP122 : apOf Try.prog 122 = some (95, 24, 1) := by kernel_rfl
theorem yR95 : zrow Try.prog 95 = some [.sl []] := by kernel_rfl
theorem yU122 : Try.prog.underlying 122 = some (.slice 95) := by kernel_rfl
theorem yF125_1 : fldOf Try.prog 125 1 = some (1, 3) := by kernel_rfl
theorem yF125_0 : fldOf Try.prog 125 0 = some (0, 51) := by kernel_rfl
theorem yA51 : aggOf Try.prog 51 = some false := by kernel_rfl
theorem yA5 : aggOf Try.prog 5 = some false := by kernel_rfl
theorem yU5 : Try.prog.underlying 5 = some (.int .u8) := by kernel_rfl
theorem yU3 : Try.prog.underlying 3 = some (.int .i64) := by kernel_rfl
theorem yE122 : elOf Try.prog 122 = some (95, 1) := by kernel_rfl
theorem yA95 : aggOf Try.prog 95 = some false := by kernel_rfl
theorem yE95 : elOf Try.prog 95 = some (9, 1) := by kernel_rfl
theorem yU95 : Try.prog.underlying 95 = some (.slice 9) := by kernel_rfl
theorem yI32 : ∃ x, Try.prog.info? 32 = some x := Option.isSome_iff_exists.mp (by kernel_rfl : (Try.prog.info? 32).isSome = true)
theorem yP148 : apOf Try.prog 148 = some (22, 24, 1) := by kernel_rfl
theorem yR22 : zrow Try.prog 22 = some [.sl []] := by kernel_rfl
theorem yU148 : Try.prog.underlying 148 = some (.slice 22) := by kernel_rfl
theorem yE148 : elOf Try.prog 148 = some (22, 1) := by kernel_rfl
theorem yP101 : apOf Try.prog 101 = some (45, 160, 10) := by kernel_rfl
theorem yR45 : zrow Try.prog 45 = some [(.sc (.int .i64 0)), (.sc (.str ⟨#[]⟩)), (.sc (.int .i64 0)), .sl [], .sl [], (.sc (.int .i64 0)), (.sc (.str ⟨#[]⟩)), (.sc (.int .i64 0)), .sl [], .sl []] := by kernel_rfl
theorem yL45 : placesOf Try.prog 45 = some [(0, 5), (5, 5)] := by kernel_rfl
theorem yU101 : Try.prog.underlying 101 = some (.slice 45) := by kernel_rfl
theorem yE101 : elOf Try.prog 101 = some (45, 10) := by kernel_rfl
theorem yP135 : apOf Try.prog 135 = some (155, 48, 3) := by kernel_rfl
theorem yR155 : zrow Try.prog 155 = some [(.sc (.str ⟨#[]⟩)), .sl [], (.sc (.int .i64 0))] := by kernel_rfl
theorem yZ155 : zcells Try.prog 155 = some [.t (.sc (.str ⟨#[]⟩)), .nl, .t (.sc (.int .i64 0))] := by kernel_rfl
theorem yL155 : placesOf Try.prog 155 = some [(0, 1), (1, 1), (2, 1)] := by kernel_rfl
theorem yU135 : Try.prog.underlying 135 = some (.slice 155) := by kernel_rfl
theorem yE135 : elOf Try.prog 135 = some (155, 3) := by kernel_rfl
theorem yF155_0 : fldOf Try.prog 155 0 = some (0, 9) := by kernel_rfl
theorem yF155_1 : fldOf Try.prog 155 1 = some (1, 22) := by kernel_rfl
theorem yF155_2 : fldOf Try.prog 155 2 = some (2, 3) := by kernel_rfl
theorem yP168 : apOf Try.prog 168 = some (34, 24, 1) := by kernel_rfl
theorem yR34 : zrow Try.prog 34 = some [.sl []] := by kernel_rfl
theorem yU168 : Try.prog.underlying 168 = some (.slice 34) := by kernel_rfl
theorem yE168 : elOf Try.prog 168 = some (34, 1) := by kernel_rfl
theorem yI65 : ∃ x, Try.prog.info? 65 = some x := Option.isSome_iff_exists.mp (by kernel_rfl : (Try.prog.info? 65).isSome = true)
end Go.Abs
