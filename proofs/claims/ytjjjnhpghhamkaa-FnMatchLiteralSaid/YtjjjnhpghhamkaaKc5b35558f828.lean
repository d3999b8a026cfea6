/- A part of the proof: what the functions that the law calls answer, as pure values. -/
import Derived.Test.YtjjjnhpghhamkaaK690595b2f9f4
import Derived.Test.YtjjjnhpghhamkaaProg
set_option linter.unusedSimpArgs false
set_option linter.unusedVariables false
set_option maxRecDepth 100000
set_option maxHeartbeats 4000000
namespace Go.Abs
open Go.Proofs
theorem yU22 : Try.prog.underlying 22 = some (.slice 5) := by kernel_rfl
theorem yZ27 : zcells Try.prog 27 = some [.t (.sc (.int .i64 0)), .t (.sc (.str ⟨#[]⟩)), .t (.sc (.int .i64 0)), .nl, .nl] := by kernel_rfl
theorem yE22 : elOf Try.prog 22 = some (5, 1) := by kernel_rfl
theorem yZ79 : zcells Try.prog 79 = some [.nl, .t (.sc (.int .i64 0))] := by kernel_rfl
theorem yL79 : placesOf Try.prog 79 = some [(0, 1), (1, 1)] := by kernel_rfl
theorem yP72 : apOf Try.prog 72 = some (9, 16, 1) := by kernel_rfl
theorem yR9 : zrow Try.prog 9 = some [(.sc (.str ⟨#[]⟩))] := by kernel_rfl
theorem yP69 : apOf Try.prog 69 = some (72, 24, 1) := by kernel_rfl
theorem yR72 : zrow Try.prog 72 = some [.sl []] := by kernel_rfl
theorem yU69 : Try.prog.underlying 69 = some (.slice 72) := by kernel_rfl
theorem yF79_1 : fldOf Try.prog 79 1 = some (1, 3) := by kernel_rfl
theorem yA3 : aggOf Try.prog 3 = some false := by kernel_rfl
theorem yS3 : szOf Try.prog 3 = some 1 := by kernel_rfl
theorem yF79_0 : fldOf Try.prog 79 0 = some (0, 22) := by kernel_rfl
theorem yA22 : aggOf Try.prog 22 = some false := by kernel_rfl
theorem yA5 : aggOf Try.prog 5 = some false := by kernel_rfl
theorem yU5 : Try.prog.underlying 5 = some (.int .u8) := by kernel_rfl
theorem yU3 : Try.prog.underlying 3 = some (.int .i64) := by kernel_rfl
theorem yMix : Try.prog.follows .mixedOrders = true := by kernel_rfl
theorem yE69 : elOf Try.prog 69 = some (72, 1) := by kernel_rfl
theorem yA72 : aggOf Try.prog 72 = some false := by kernel_rfl
theorem yE72 : elOf Try.prog 72 = some (9, 1) := by kernel_rfl
theorem yA9 : aggOf Try.prog 9 = some false := by kernel_rfl
theorem yU9 : Try.prog.underlying 9 = some .string := by kernel_rfl
theorem yL27 : placesOf Try.prog 27 = some [(0, 1), (1, 1), (2, 1), (3, 1), (4, 1)] := by kernel_rfl
theorem yS27 : szOf Try.prog 27 = some 5 := by kernel_rfl
theorem yA27 : aggOf Try.prog 27 = some true := by kernel_rfl
theorem yP24 : apOf Try.prog 24 = some (3, 8, 1) := by kernel_rfl
theorem yR3 : zrow Try.prog 3 = some [(.sc (.int .i64 0))] := by kernel_rfl
theorem yU72 : Try.prog.underlying 72 = some (.slice 9) := by kernel_rfl
theorem yF27_4 : fldOf Try.prog 27 4 = some (4, 25) := by kernel_rfl
theorem yA25 : aggOf Try.prog 25 = some false := by kernel_rfl
theorem yU25 : Try.prog.underlying 25 = some (.slice 27) := by kernel_rfl
theorem yP25 : apOf Try.prog 25 = some (27, 80, 5) := by kernel_rfl
theorem yR27 : zrow Try.prog 27 = some [(.sc (.int .i64 0)), (.sc (.str ⟨#[]⟩)), (.sc (.int .i64 0)), .sl [], .sl []] := by kernel_rfl
theorem yS25 : szOf Try.prog 25 = some 1 := by kernel_rfl
theorem yI27 : ∃ x, Try.prog.info? 27 = some x := Option.isSome_iff_exists.mp (by kernel_rfl : (Try.prog.info? 27).isSome = true)
theorem yF27_0 : fldOf Try.prog 27 0 = some (0, 3) := by kernel_rfl
theorem yF27_1 : fldOf Try.prog 27 1 = some (1, 9) := by kernel_rfl
theorem yF27_2 : fldOf Try.prog 27 2 = some (2, 3) := by kernel_rfl
theorem yF27_3 : fldOf Try.prog 27 3 = some (3, 24) := by kernel_rfl
theorem yA24 : aggOf Try.prog 24 = some false := by kernel_rfl
theorem yU24 : Try.prog.underlying 24 = some (.slice 3) := by kernel_rfl
theorem yE24 : elOf Try.prog 24 = some (3, 1) := by kernel_rfl
theorem yE25 : elOf Try.prog 25 = some (27, 5) := by kernel_rfl
theorem yS9 : szOf Try.prog 9 = some 1 := by kernel_rfl
theorem yS24 : szOf Try.prog 24 = some 1 := by kernel_rfl
theorem yP105 : apOf Try.prog 105 = some (24, 24, 1) := by kernel_rfl
theorem yR24 : zrow Try.prog 24 = some [.sl []] := by kernel_rfl
theorem yU105 : Try.prog.underlying 105 = some (.slice 24) := by kernel_rfl
theorem yE105 : elOf Try.prog 105 = some (24, 1) := by kernel_rfl
theorem yP23 : apOf Try.prog 23 = some (52, 48, 3) := by kernel_rfl
theorem yR52 : zrow Try.prog 52 = some [(.sc (.str ⟨#[]⟩)), .sl [], (.sc (.int .i64 0))] := by kernel_rfl
theorem yZ52 : zcells Try.prog 52 = some [.t (.sc (.str ⟨#[]⟩)), .nl, .t (.sc (.int .i64 0))] := by kernel_rfl
theorem yL52 : placesOf Try.prog 52 = some [(0, 1), (1, 1), (2, 1)] := by kernel_rfl
theorem yU23 : Try.prog.underlying 23 = some (.slice 52) := by kernel_rfl
theorem yE23 : elOf Try.prog 23 = some (52, 3) := by kernel_rfl
theorem yA52 : aggOf Try.prog 52 = some true := by kernel_rfl
theorem yS52 : szOf Try.prog 52 = some 3 := by kernel_rfl
theorem yF52_0 : fldOf Try.prog 52 0 = some (0, 9) := by kernel_rfl
theorem yF52_1 : fldOf Try.prog 52 1 = some (1, 24) := by kernel_rfl
theorem yF52_2 : fldOf Try.prog 52 2 = some (2, 3) := by kernel_rfl
theorem yZ3 : zcells Try.prog 3 = some [.t (.sc (.int .i64 0))] := by kernel_rfl
theorem yZ25 : zcells Try.prog 25 = some [.nl] := by kernel_rfl
theorem yZ24 : zcells Try.prog 24 = some [.nl] := by kernel_rfl
theorem yA23 : aggOf Try.prog 23 = some false := by kernel_rfl
theorem yZ83 : zcells Try.prog 83 = some [.t (.sc (.int .i64 0)), .t (.sc (.str ⟨#[]⟩)), .t (.sc (.int .i64 0)), .nl, .nl, .t (.sc (.int .i64 0)), .t (.sc (.int .i64 0)), .t (.sc (.str ⟨#[]⟩)), .t (.sc (.int .i64 0)), .nl, .nl, .nl] := by kernel_rfl
theorem yL83 : placesOf Try.prog 83 = some [(0, 5), (5, 1), (6, 5), (11, 1)] := by kernel_rfl
theorem yP30 : apOf Try.prog 30 = some (83, 192, 12) := by kernel_rfl
theorem yR83 : zrow Try.prog 83 = some [(.sc (.int .i64 0)), (.sc (.str ⟨#[]⟩)), (.sc (.int .i64 0)), .sl [], .sl [], (.sc (.int .i64 0)), (.sc (.int .i64 0)), (.sc (.str ⟨#[]⟩)), (.sc (.int .i64 0)), .sl [], .sl [], .sl []] := by kernel_rfl
theorem yZ30 : zcells Try.prog 30 = some [.nl] := by kernel_rfl
theorem yS30 : szOf Try.prog 30 = some 1 := by kernel_rfl
theorem yA30 : aggOf Try.prog 30 = some false := by kernel_rfl
theorem yS83 : szOf Try.prog 83 = some 12 := by kernel_rfl
theorem yU30 : Try.prog.underlying 30 = some (.slice 83) := by kernel_rfl
theorem yE30 : elOf Try.prog 30 = some (83, 12) := by kernel_rfl
theorem yF83_3 : fldOf Try.prog 83 3 = some (11, 30) := by kernel_rfl
theorem yA83 : aggOf Try.prog 83 = some true := by kernel_rfl
theorem yP108 : apOf Try.prog 108 = some (30, 24, 1) := by kernel_rfl
theorem yR30 : zrow Try.prog 30 = some [.sl []] := by kernel_rfl
theorem yU108 : Try.prog.underlying 108 = some (.slice 30) := by kernel_rfl
theorem yE108 : elOf Try.prog 108 = some (30, 1) := by kernel_rfl
theorem yI83 : ∃ x, Try.prog.info? 83 = some x := Option.isSome_iff_exists.mp (by kernel_rfl : (Try.prog.info? 83).isSome = true)
theorem yF83_0 : fldOf Try.prog 83 0 = some (0, 27) := by kernel_rfl
theorem yF83_1 : fldOf Try.prog 83 1 = some (5, 3) := by kernel_rfl
theorem yF83_2 : fldOf Try.prog 83 2 = some (6, 27) := by kernel_rfl
theorem yU4 : Try.prog.underlying 4 = some .bool := by kernel_rfl
end Go.Abs
