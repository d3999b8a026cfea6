/- A part of the proof: what the functions that the law calls answer, as pure values. -/
import Derived.Test.YtehdhaaopmihaaaGreatDoorK2fa2763a6b98
import Derived.Test.YtehdhaaopmihaaaGreatDoorProg
set_option linter.unusedSimpArgs false
set_option linter.unusedVariables false
set_option maxRecDepth 100000
set_option maxHeartbeats 4000000
namespace Go.Abs
open Go.Proofs
theorem yA28 : aggOf Tryz.prog 28 = some true := by kernel_rfl
theorem yS28 : szOf Tryz.prog 28 = some 11 := by kernel_rfl
theorem yF28_2 : fldOf Tryz.prog 28 2 = some (2, 9) := by kernel_rfl
theorem yA9 : aggOf Tryz.prog 9 = some false := by kernel_rfl
theorem yU9 : Tryz.prog.underlying 9 = some .string := by kernel_rfl
theorem yF28_4 : fldOf Tryz.prog 28 4 = some (4, 22) := by kernel_rfl
theorem yA22 : aggOf Tryz.prog 22 = some false := by kernel_rfl
theorem yU22 : Tryz.prog.underlying 22 = some (.slice 3) := by kernel_rfl
theorem yF28_5 : fldOf Tryz.prog 28 5 = some (5, 25) := by kernel_rfl
theorem yA25 : aggOf Tryz.prog 25 = some true := by kernel_rfl
theorem yS25 : szOf Tryz.prog 25 = some 5 := by kernel_rfl
theorem yF25_1 : fldOf Tryz.prog 25 1 = some (1, 9) := by kernel_rfl
theorem yF25_3 : fldOf Tryz.prog 25 3 = some (3, 22) := by kernel_rfl
theorem yF25_4 : fldOf Tryz.prog 25 4 = some (4, 23) := by kernel_rfl
theorem yA23 : aggOf Tryz.prog 23 = some false := by kernel_rfl
theorem yU23 : Tryz.prog.underlying 23 = some (.slice 25) := by kernel_rfl
theorem yE23 : elOf Tryz.prog 23 = some (25, 5) := by kernel_rfl
theorem yF28_6 : fldOf Tryz.prog 28 6 = some (10, 26) := by kernel_rfl
theorem yA26 : aggOf Tryz.prog 26 = some false := by kernel_rfl
theorem yU26 : Tryz.prog.underlying 26 = some (.slice 28) := by kernel_rfl
theorem yE26 : elOf Tryz.prog 26 = some (28, 11) := by kernel_rfl
theorem yZ36 : zcells Tryz.prog 36 = some [.t (.sc (.int .i64 0)), .t (.sc (.int .i64 0)), .t (.sc (.str ⟨#[]⟩)), .t (.sc (.int .i64 0)), .nl, .t (.sc (.int .i64 0)), .t (.sc (.str ⟨#[]⟩)), .t (.sc (.int .i64 0)), .nl, .nl, .nl] := by kernel_rfl
theorem yF28_0 : fldOf Tryz.prog 28 0 = some (0, 3) := by kernel_rfl
theorem yA3 : aggOf Tryz.prog 3 = some false := by kernel_rfl
theorem yF36_0 : fldOf Tryz.prog 36 0 = some (0, 3) := by kernel_rfl
theorem yS3 : szOf Tryz.prog 3 = some 1 := by kernel_rfl
theorem yF28_1 : fldOf Tryz.prog 28 1 = some (1, 3) := by kernel_rfl
theorem yF36_1 : fldOf Tryz.prog 36 1 = some (1, 3) := by kernel_rfl
theorem yF36_2 : fldOf Tryz.prog 36 2 = some (2, 9) := by kernel_rfl
theorem yS9 : szOf Tryz.prog 9 = some 1 := by kernel_rfl
theorem yF28_3 : fldOf Tryz.prog 28 3 = some (3, 3) := by kernel_rfl
theorem yF36_3 : fldOf Tryz.prog 36 3 = some (3, 3) := by kernel_rfl
theorem yP22 : apOf Tryz.prog 22 = some (3, 8, 1) := by kernel_rfl
theorem yR3 : zrow Tryz.prog 3 = some [(.sc (.int .i64 0))] := by kernel_rfl
theorem yE22 : elOf Tryz.prog 22 = some (3, 1) := by kernel_rfl
theorem yF36_4 : fldOf Tryz.prog 36 4 = some (4, 22) := by kernel_rfl
theorem yS22 : szOf Tryz.prog 22 = some 1 := by kernel_rfl
theorem yZ33 : zcells Tryz.prog 33 = some [.t (.sc (.int .i64 0)), .t (.sc (.str ⟨#[]⟩)), .t (.sc (.int .i64 0)), .nl, .nl] := by kernel_rfl
theorem yF25_0 : fldOf Tryz.prog 25 0 = some (0, 3) := by kernel_rfl
theorem yF33_0 : fldOf Tryz.prog 33 0 = some (0, 3) := by kernel_rfl
theorem yF33_1 : fldOf Tryz.prog 33 1 = some (1, 9) := by kernel_rfl
theorem yF25_2 : fldOf Tryz.prog 25 2 = some (2, 3) := by kernel_rfl
theorem yF33_2 : fldOf Tryz.prog 33 2 = some (2, 3) := by kernel_rfl
theorem yF33_3 : fldOf Tryz.prog 33 3 = some (3, 22) := by kernel_rfl
theorem yP31 : apOf Tryz.prog 31 = some (33, 80, 5) := by kernel_rfl
theorem yR33 : zrow Tryz.prog 33 = some [(.sc (.int .i64 0)), (.sc (.str ⟨#[]⟩)), (.sc (.int .i64 0)), .sl [], .sl []] := by kernel_rfl
theorem yE31 : elOf Tryz.prog 31 = some (33, 5) := by kernel_rfl
theorem yS33 : szOf Tryz.prog 33 = some 5 := by kernel_rfl
theorem yF33_4 : fldOf Tryz.prog 33 4 = some (4, 31) := by kernel_rfl
theorem yS31 : szOf Tryz.prog 31 = some 1 := by kernel_rfl
theorem yA33 : aggOf Tryz.prog 33 = some true := by kernel_rfl
theorem yF36_5 : fldOf Tryz.prog 36 5 = some (5, 33) := by kernel_rfl
theorem yP34 : apOf Tryz.prog 34 = some (36, 168, 11) := by kernel_rfl
theorem yR36 : zrow Tryz.prog 36 = some [(.sc (.int .i64 0)), (.sc (.int .i64 0)), (.sc (.str ⟨#[]⟩)), (.sc (.int .i64 0)), .sl [], (.sc (.int .i64 0)), (.sc (.str ⟨#[]⟩)), (.sc (.int .i64 0)), .sl [], .sl [], .sl []] := by kernel_rfl
theorem yE34 : elOf Tryz.prog 34 = some (36, 11) := by kernel_rfl
theorem yS36 : szOf Tryz.prog 36 = some 11 := by kernel_rfl
theorem yF36_6 : fldOf Tryz.prog 36 6 = some (10, 34) := by kernel_rfl
theorem yS34 : szOf Tryz.prog 34 = some 1 := by kernel_rfl
theorem yA36 : aggOf Tryz.prog 36 = some true := by kernel_rfl
theorem yA34 : aggOf Tryz.prog 34 = some false := by kernel_rfl
theorem yU34 : Tryz.prog.underlying 34 = some (.slice 36) := by kernel_rfl
theorem yMix : Tryz.prog.follows .mixedOrders = true := by kernel_rfl
theorem yA31 : aggOf Tryz.prog 31 = some false := by kernel_rfl
theorem yU31 : Tryz.prog.underlying 31 = some (.slice 33) := by kernel_rfl
theorem yL33 : placesOf Tryz.prog 33 = some [(0, 1), (1, 1), (2, 1), (3, 1), (4, 1)] := by kernel_rfl
theorem yI33 : ∃ x, Tryz.prog.info? 33 = some x := Option.isSome_iff_exists.mp (by kernel_rfl : (Tryz.prog.info? 33).isSome = true)
theorem yU3 : Tryz.prog.underlying 3 = some (.int .i64) := by kernel_rfl
theorem yU5 : Tryz.prog.underlying 5 = some (.int .u8) := by kernel_rfl
theorem yP40 : apOf Tryz.prog 40 = some (5, 1, 1) := by kernel_rfl
theorem yR5 : zrow Tryz.prog 5 = some [(.sc (.int .u8 0))] := by kernel_rfl
theorem yU40 : Tryz.prog.underlying 40 = some (.slice 5) := by kernel_rfl
theorem yE40 : elOf Tryz.prog 40 = some (5, 1) := by kernel_rfl
theorem yZ3 : zcells Tryz.prog 3 = some [.t (.sc (.int .i64 0))] := by kernel_rfl
theorem yL36 : placesOf Tryz.prog 36 = some [(0, 1), (1, 1), (2, 1), (3, 1), (4, 1), (5, 5), (10, 1)] := by kernel_rfl
theorem yZ22 : zcells Tryz.prog 22 = some [.nl] := by kernel_rfl
theorem yI3 : ∃ x, Tryz.prog.info? 3 = some x := Option.isSome_iff_exists.mp (by kernel_rfl : (Tryz.prog.info? 3).isSome = true)
theorem yP50 : apOf Tryz.prog 50 = some (9, 16, 1) := by kernel_rfl
theorem yR9 : zrow Tryz.prog 9 = some [(.sc (.str ⟨#[]⟩))] := by kernel_rfl
theorem yZ121 : zcells Tryz.prog 121 = some [.nl, .t (.sc (.int .i64 0))] := by kernel_rfl
theorem yL121 : placesOf Tryz.prog 121 = some [(0, 1), (1, 1)] := by kernel_rfl
theorem yF121_1 : fldOf Tryz.prog 121 1 = some (1, 3) := by kernel_rfl
theorem yF121_0 : fldOf Tryz.prog 121 0 = some (0, 40) := by kernel_rfl
theorem yA40 : aggOf Tryz.prog 40 = some false := by kernel_rfl
theorem yA5 : aggOf Tryz.prog 5 = some false := by kernel_rfl
theorem yU50 : Tryz.prog.underlying 50 = some (.slice 9) := by kernel_rfl
theorem yE50 : elOf Tryz.prog 50 = some (9, 1) := by kernel_rfl
theorem yI36 : ∃ x, Tryz.prog.info? 36 = some x := Option.isSome_iff_exists.mp (by kernel_rfl : (Tryz.prog.info? 36).isSome = true)
theorem yU4 : Tryz.prog.underlying 4 = some .bool := by kernel_rfl
theorem yM107 : mapII Tryz.prog 107 = true := by kernel_rfl
theorem yI9 : ∃ x, Tryz.prog.info? 9 = some x := Option.isSome_iff_exists.mp (by kernel_rfl : (Tryz.prog.info? 9).isSome = true)
end Go.Abs
