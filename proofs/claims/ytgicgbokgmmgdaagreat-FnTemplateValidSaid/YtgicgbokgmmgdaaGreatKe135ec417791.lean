/- A part of the proof: what the functions that the law calls answer, as pure values. -/
import Derived.Test.YtgicgbokgmmgdaaGreatK9755d113d921
import Derived.Test.YtgicgbokgmmgdaaGreatProg
set_option linter.unusedSimpArgs false
set_option linter.unusedVariables false
set_option maxRecDepth 100000
set_option maxHeartbeats 4000000
namespace Go.Abs
open Go.Proofs
theorem yU35 : Tryz.prog.underlying 35 = some (.slice 5) := by kernel_rfl
theorem yZ39 : zcells Tryz.prog 39 = some [.t (.sc (.int .i64 0)), .t (.sc (.str ⟨#[]⟩)), .t (.sc (.int .i64 0)), .nl, .nl] := by kernel_rfl
theorem yE35 : elOf Tryz.prog 35 = some (5, 1) := by kernel_rfl
theorem yZ157 : zcells Tryz.prog 157 = some [.nl, .t (.sc (.int .i64 0))] := by kernel_rfl
theorem yL157 : placesOf Tryz.prog 157 = some [(0, 1), (1, 1)] := by kernel_rfl
theorem yP47 : apOf Tryz.prog 47 = some (9, 16, 1) := by kernel_rfl
theorem yR9 : zrow Tryz.prog 9 = some [(.sc (.str ⟨#[]⟩))] := by kernel_rfl
theorem yP152 : apOf Tryz.prog 152 = some (47, 24, 1) := by kernel_rfl
theorem yR47 : zrow Tryz.prog 47 = some [.sl []] := by kernel_rfl
theorem yU152 : Tryz.prog.underlying 152 = some (.slice 47) := by kernel_rfl
theorem yF157_1 : fldOf Tryz.prog 157 1 = some (1, 3) := by kernel_rfl
theorem yA3 : aggOf Tryz.prog 3 = some false := by kernel_rfl
theorem yS3 : szOf Tryz.prog 3 = some 1 := by kernel_rfl
theorem yF157_0 : fldOf Tryz.prog 157 0 = some (0, 35) := by kernel_rfl
theorem yA35 : aggOf Tryz.prog 35 = some false := by kernel_rfl
theorem yA5 : aggOf Tryz.prog 5 = some false := by kernel_rfl
theorem yU5 : Tryz.prog.underlying 5 = some (.int .u8) := by kernel_rfl
theorem yU3 : Tryz.prog.underlying 3 = some (.int .i64) := by kernel_rfl
theorem yMix : Tryz.prog.follows .mixedOrders = true := by kernel_rfl
theorem yE152 : elOf Tryz.prog 152 = some (47, 1) := by kernel_rfl
theorem yA47 : aggOf Tryz.prog 47 = some false := by kernel_rfl
theorem yE47 : elOf Tryz.prog 47 = some (9, 1) := by kernel_rfl
theorem yA9 : aggOf Tryz.prog 9 = some false := by kernel_rfl
theorem yU9 : Tryz.prog.underlying 9 = some .string := by kernel_rfl
theorem yL39 : placesOf Tryz.prog 39 = some [(0, 1), (1, 1), (2, 1), (3, 1), (4, 1)] := by kernel_rfl
theorem yS39 : szOf Tryz.prog 39 = some 5 := by kernel_rfl
theorem yA39 : aggOf Tryz.prog 39 = some true := by kernel_rfl
theorem yP36 : apOf Tryz.prog 36 = some (3, 8, 1) := by kernel_rfl
theorem yR3 : zrow Tryz.prog 3 = some [(.sc (.int .i64 0))] := by kernel_rfl
theorem yU47 : Tryz.prog.underlying 47 = some (.slice 9) := by kernel_rfl
theorem yF39_4 : fldOf Tryz.prog 39 4 = some (4, 37) := by kernel_rfl
theorem yA37 : aggOf Tryz.prog 37 = some false := by kernel_rfl
theorem yU37 : Tryz.prog.underlying 37 = some (.slice 39) := by kernel_rfl
theorem yP37 : apOf Tryz.prog 37 = some (39, 80, 5) := by kernel_rfl
theorem yR39 : zrow Tryz.prog 39 = some [(.sc (.int .i64 0)), (.sc (.str ⟨#[]⟩)), (.sc (.int .i64 0)), .sl [], .sl []] := by kernel_rfl
theorem yS37 : szOf Tryz.prog 37 = some 1 := by kernel_rfl
theorem yI39 : ∃ x, Tryz.prog.info? 39 = some x := Option.isSome_iff_exists.mp (by kernel_rfl : (Tryz.prog.info? 39).isSome = true)
theorem yF39_0 : fldOf Tryz.prog 39 0 = some (0, 3) := by kernel_rfl
theorem yF39_1 : fldOf Tryz.prog 39 1 = some (1, 9) := by kernel_rfl
theorem yF39_2 : fldOf Tryz.prog 39 2 = some (2, 3) := by kernel_rfl
theorem yF39_3 : fldOf Tryz.prog 39 3 = some (3, 36) := by kernel_rfl
theorem yA36 : aggOf Tryz.prog 36 = some false := by kernel_rfl
theorem yU36 : Tryz.prog.underlying 36 = some (.slice 3) := by kernel_rfl
theorem yE36 : elOf Tryz.prog 36 = some (3, 1) := by kernel_rfl
theorem yE37 : elOf Tryz.prog 37 = some (39, 5) := by kernel_rfl
theorem yS9 : szOf Tryz.prog 9 = some 1 := by kernel_rfl
theorem yS36 : szOf Tryz.prog 36 = some 1 := by kernel_rfl
theorem yP67 : apOf Tryz.prog 67 = some (104, 160, 10) := by kernel_rfl
theorem yR104 : zrow Tryz.prog 104 = some [(.sc (.int .i64 0)), (.sc (.str ⟨#[]⟩)), (.sc (.int .i64 0)), .sl [], .sl [], (.sc (.int .i64 0)), (.sc (.str ⟨#[]⟩)), (.sc (.int .i64 0)), .sl [], .sl []] := by kernel_rfl
theorem yZ104 : zcells Tryz.prog 104 = some [.t (.sc (.int .i64 0)), .t (.sc (.str ⟨#[]⟩)), .t (.sc (.int .i64 0)), .nl, .nl, .t (.sc (.int .i64 0)), .t (.sc (.str ⟨#[]⟩)), .t (.sc (.int .i64 0)), .nl, .nl] := by kernel_rfl
theorem yL104 : placesOf Tryz.prog 104 = some [(0, 5), (5, 5)] := by kernel_rfl
theorem yU67 : Tryz.prog.underlying 67 = some (.slice 104) := by kernel_rfl
theorem yE67 : elOf Tryz.prog 67 = some (104, 10) := by kernel_rfl
theorem yA104 : aggOf Tryz.prog 104 = some true := by kernel_rfl
theorem yS104 : szOf Tryz.prog 104 = some 10 := by kernel_rfl
theorem yF104_0 : fldOf Tryz.prog 104 0 = some (0, 39) := by kernel_rfl
theorem yF104_1 : fldOf Tryz.prog 104 1 = some (5, 39) := by kernel_rfl
theorem yP40 : apOf Tryz.prog 40 = some (50, 192, 12) := by kernel_rfl
theorem yR50 : zrow Tryz.prog 50 = some [(.sc (.int .i64 0)), (.sc (.str ⟨#[]⟩)), (.sc (.int .i64 0)), .sl [], .sl [], (.sc (.int .i64 0)), (.sc (.int .i64 0)), (.sc (.str ⟨#[]⟩)), (.sc (.int .i64 0)), .sl [], .sl [], .sl []] := by kernel_rfl
theorem yZ50 : zcells Tryz.prog 50 = some [.t (.sc (.int .i64 0)), .t (.sc (.str ⟨#[]⟩)), .t (.sc (.int .i64 0)), .nl, .nl, .t (.sc (.int .i64 0)), .t (.sc (.int .i64 0)), .t (.sc (.str ⟨#[]⟩)), .t (.sc (.int .i64 0)), .nl, .nl, .nl] := by kernel_rfl
theorem yL50 : placesOf Tryz.prog 50 = some [(0, 5), (5, 1), (6, 5), (11, 1)] := by kernel_rfl
theorem yS50 : szOf Tryz.prog 50 = some 12 := by kernel_rfl
theorem yF50_1 : fldOf Tryz.prog 50 1 = some (5, 3) := by kernel_rfl
theorem yF50_2 : fldOf Tryz.prog 50 2 = some (6, 39) := by kernel_rfl
theorem yA50 : aggOf Tryz.prog 50 = some true := by kernel_rfl
theorem yU40 : Tryz.prog.underlying 40 = some (.slice 50) := by kernel_rfl
theorem yE40 : elOf Tryz.prog 40 = some (50, 12) := by kernel_rfl
theorem yF50_0 : fldOf Tryz.prog 50 0 = some (0, 39) := by kernel_rfl
theorem yP177 : apOf Tryz.prog 177 = some (36, 24, 1) := by kernel_rfl
theorem yR36 : zrow Tryz.prog 36 = some [.sl []] := by kernel_rfl
theorem yU177 : Tryz.prog.underlying 177 = some (.slice 36) := by kernel_rfl
theorem yE177 : elOf Tryz.prog 177 = some (36, 1) := by kernel_rfl
theorem yP28 : apOf Tryz.prog 28 = some (66, 48, 3) := by kernel_rfl
theorem yR66 : zrow Tryz.prog 66 = some [(.sc (.str ⟨#[]⟩)), .sl [], (.sc (.int .i64 0))] := by kernel_rfl
theorem yU28 : Tryz.prog.underlying 28 = some (.slice 66) := by kernel_rfl
theorem yE28 : elOf Tryz.prog 28 = some (66, 3) := by kernel_rfl
theorem yF66_0 : fldOf Tryz.prog 66 0 = some (0, 9) := by kernel_rfl
theorem yF66_1 : fldOf Tryz.prog 66 1 = some (1, 36) := by kernel_rfl
theorem yF66_2 : fldOf Tryz.prog 66 2 = some (2, 3) := by kernel_rfl
theorem yP187 : apOf Tryz.prog 187 = some (40, 24, 1) := by kernel_rfl
theorem yR40 : zrow Tryz.prog 40 = some [.sl []] := by kernel_rfl
theorem yU187 : Tryz.prog.underlying 187 = some (.slice 40) := by kernel_rfl
theorem yF50_3 : fldOf Tryz.prog 50 3 = some (11, 40) := by kernel_rfl
theorem yA40 : aggOf Tryz.prog 40 = some false := by kernel_rfl
theorem yE187 : elOf Tryz.prog 187 = some (40, 1) := by kernel_rfl
theorem yS40 : szOf Tryz.prog 40 = some 1 := by kernel_rfl
theorem yI50 : ∃ x, Tryz.prog.info? 50 = some x := Option.isSome_iff_exists.mp (by kernel_rfl : (Tryz.prog.info? 50).isSome = true)
theorem yZ3 : zcells Tryz.prog 3 = some [.t (.sc (.int .i64 0))] := by kernel_rfl
theorem yZ4 : zcells Tryz.prog 4 = some [.t (.sc (.bool false))] := by kernel_rfl
theorem yS4 : szOf Tryz.prog 4 = some 1 := by kernel_rfl
theorem yA4 : aggOf Tryz.prog 4 = some false := by kernel_rfl
theorem yU4 : Tryz.prog.underlying 4 = some .bool := by kernel_rfl
theorem yZ47 : zcells Tryz.prog 47 = some [.nl] := by kernel_rfl
theorem yS47 : szOf Tryz.prog 47 = some 1 := by kernel_rfl
end Go.Abs
