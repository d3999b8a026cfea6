/- A part of the proof: what the functions that the law calls answer, as pure values. -/
import Derived.Test.YtpmhanibecniaaaDoorK0c2fee0c4f9f
import Derived.Test.YtpmhanibecniaaaDoorProg
set_option linter.unusedSimpArgs false
set_option linter.unusedVariables false
set_option maxRecDepth 100000
set_option maxHeartbeats 4000000
namespace Go.Abs
open Go.Proofs
theorem yU22 : Tryd.prog.underlying 22 = some (.slice 5) := by kernel_rfl
theorem yE22 : elOf Tryd.prog 22 = some (5, 1) := by kernel_rfl
theorem yZ56 : zcells Tryd.prog 56 = some [.nl, .t (.sc (.int .i64 0))] := by kernel_rfl
theorem yL56 : placesOf Tryd.prog 56 = some [(0, 1), (1, 1)] := by kernel_rfl
theorem yP38 : apOf Tryd.prog 38 = some (9, 16, 1) := by kernel_rfl
theorem yR9 : zrow Tryd.prog 9 = some [(.sc (.str ⟨#[]⟩))] := by kernel_rfl
theorem yU38 : Tryd.prog.underlying 38 = some (.slice 9) := by kernel_rfl
theorem yF56_1 : fldOf Tryd.prog 56 1 = some (1, 3) := by kernel_rfl
theorem yA3 : aggOf Tryd.prog 3 = some false := by kernel_rfl
theorem yS3 : szOf Tryd.prog 3 = some 1 := by kernel_rfl
theorem yF56_0 : fldOf Tryd.prog 56 0 = some (0, 22) := by kernel_rfl
theorem yA22 : aggOf Tryd.prog 22 = some false := by kernel_rfl
theorem yA5 : aggOf Tryd.prog 5 = some false := by kernel_rfl
theorem yU5 : Tryd.prog.underlying 5 = some (.int .u8) := by kernel_rfl
theorem yU3 : Tryd.prog.underlying 3 = some (.int .i64) := by kernel_rfl
theorem yMix : Tryd.prog.follows .mixedOrders = true := by kernel_rfl
theorem yE38 : elOf Tryd.prog 38 = some (9, 1) := by kernel_rfl
theorem yA9 : aggOf Tryd.prog 9 = some false := by kernel_rfl
theorem yU9 : Tryd.prog.underlying 9 = some .string := by kernel_rfl
theorem yZ28 : zcells Tryd.prog 28 = some [.t (.sc (.int .i64 0)), .t (.sc (.str ⟨#[]⟩)), .t (.sc (.int .i64 0)), .nl, .nl] := by kernel_rfl
theorem yZ43 : zcells Tryd.prog 43 = some [.t (.sc (.str ⟨#[]⟩)), .t (.sc (.bool false))] := by kernel_rfl
theorem yL43 : placesOf Tryd.prog 43 = some [(0, 1), (1, 1)] := by kernel_rfl
theorem yF43_0 : fldOf Tryd.prog 43 0 = some (0, 9) := by kernel_rfl
theorem yS9 : szOf Tryd.prog 9 = some 1 := by kernel_rfl
theorem yF43_1 : fldOf Tryd.prog 43 1 = some (1, 4) := by kernel_rfl
theorem yS4 : szOf Tryd.prog 4 = some 1 := by kernel_rfl
theorem yL28 : placesOf Tryd.prog 28 = some [(0, 1), (1, 1), (2, 1), (3, 1), (4, 1)] := by kernel_rfl
theorem yS28 : szOf Tryd.prog 28 = some 5 := by kernel_rfl
theorem yA28 : aggOf Tryd.prog 28 = some true := by kernel_rfl
theorem yA4 : aggOf Tryd.prog 4 = some false := by kernel_rfl
theorem yF28_4 : fldOf Tryd.prog 28 4 = some (4, 26) := by kernel_rfl
theorem yA26 : aggOf Tryd.prog 26 = some false := by kernel_rfl
theorem yP26 : apOf Tryd.prog 26 = some (28, 80, 5) := by kernel_rfl
theorem yR28 : zrow Tryd.prog 28 = some [(.sc (.int .i64 0)), (.sc (.str ⟨#[]⟩)), (.sc (.int .i64 0)), .sl [], .sl []] := by kernel_rfl
theorem yS26 : szOf Tryd.prog 26 = some 1 := by kernel_rfl
theorem yI28 : ∃ x, Tryd.prog.info? 28 = some x := Option.isSome_iff_exists.mp (by kernel_rfl : (Tryd.prog.info? 28).isSome = true)
theorem yF28_3 : fldOf Tryd.prog 28 3 = some (3, 25) := by kernel_rfl
theorem yA25 : aggOf Tryd.prog 25 = some false := by kernel_rfl
theorem yP25 : apOf Tryd.prog 25 = some (3, 8, 1) := by kernel_rfl
theorem yR3 : zrow Tryd.prog 3 = some [(.sc (.int .i64 0))] := by kernel_rfl
theorem yS25 : szOf Tryd.prog 25 = some 1 := by kernel_rfl
theorem yI3 : ∃ x, Tryd.prog.info? 3 = some x := Option.isSome_iff_exists.mp (by kernel_rfl : (Tryd.prog.info? 3).isSome = true)
theorem yZ3 : zcells Tryd.prog 3 = some [.t (.sc (.int .i64 0))] := by kernel_rfl
theorem yF28_0 : fldOf Tryd.prog 28 0 = some (0, 3) := by kernel_rfl
theorem yF28_1 : fldOf Tryd.prog 28 1 = some (1, 9) := by kernel_rfl
theorem yF28_2 : fldOf Tryd.prog 28 2 = some (2, 3) := by kernel_rfl
theorem yU25 : Tryd.prog.underlying 25 = some (.slice 3) := by kernel_rfl
theorem yE25 : elOf Tryd.prog 25 = some (3, 1) := by kernel_rfl
theorem yU26 : Tryd.prog.underlying 26 = some (.slice 28) := by kernel_rfl
theorem yE26 : elOf Tryd.prog 26 = some (28, 5) := by kernel_rfl
theorem yU4 : Tryd.prog.underlying 4 = some .bool := by kernel_rfl
theorem yP22 : apOf Tryd.prog 22 = some (5, 1, 1) := by kernel_rfl
theorem yR5 : zrow Tryd.prog 5 = some [(.sc (.int .u8 0))] := by kernel_rfl
end Go.Abs
