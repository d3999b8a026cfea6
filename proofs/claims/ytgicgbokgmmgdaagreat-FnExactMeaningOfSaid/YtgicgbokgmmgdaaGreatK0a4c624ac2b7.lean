/- A part of the proof: what the functions that the law calls answer, as pure values. -/
import Derived.Test.YtgicgbokgmmgdaaGreatK64ea14ca7074
import Derived.Test.YtgicgbokgmmgdaaGreatProg
set_option linter.unusedSimpArgs false
set_option linter.unusedVariables false
set_option maxRecDepth 100000
set_option maxHeartbeats 4000000
namespace Go.Abs
open Go.Proofs
theorem yA25 : aggOf Tryz.prog 25 = some true := by kernel_rfl
theorem yS25 : szOf Tryz.prog 25 = some 5 := by kernel_rfl
theorem yF25_0 : fldOf Tryz.prog 25 0 = some (0, 22) := by kernel_rfl
theorem yA22 : aggOf Tryz.prog 22 = some false := by kernel_rfl
theorem yU22 : Tryz.prog.underlying 22 = some (.slice 95) := by kernel_rfl
theorem yE22 : elOf Tryz.prog 22 = some (95, 3) := by kernel_rfl
theorem yA95 : aggOf Tryz.prog 95 = some true := by kernel_rfl
theorem yS95 : szOf Tryz.prog 95 = some 3 := by kernel_rfl
theorem yF95_0 : fldOf Tryz.prog 95 0 = some (0, 9) := by kernel_rfl
theorem yA9 : aggOf Tryz.prog 9 = some false := by kernel_rfl
theorem yU9 : Tryz.prog.underlying 9 = some .string := by kernel_rfl
theorem yF95_1 : fldOf Tryz.prog 95 1 = some (1, 36) := by kernel_rfl
theorem yA36 : aggOf Tryz.prog 36 = some false := by kernel_rfl
theorem yU36 : Tryz.prog.underlying 36 = some (.slice 3) := by kernel_rfl
theorem yF25_1 : fldOf Tryz.prog 25 1 = some (1, 23) := by kernel_rfl
theorem yA23 : aggOf Tryz.prog 23 = some false := by kernel_rfl
theorem yU23 : Tryz.prog.underlying 23 = some (.slice 99) := by kernel_rfl
theorem yE23 : elOf Tryz.prog 23 = some (99, 3) := by kernel_rfl
theorem yA99 : aggOf Tryz.prog 99 = some true := by kernel_rfl
theorem yS99 : szOf Tryz.prog 99 = some 3 := by kernel_rfl
theorem yF99_1 : fldOf Tryz.prog 99 1 = some (1, 53) := by kernel_rfl
theorem yA53 : aggOf Tryz.prog 53 = some false := by kernel_rfl
theorem yU53 : Tryz.prog.underlying 53 = some (.slice 55) := by kernel_rfl
theorem yE53 : elOf Tryz.prog 53 = some (55, 5) := by kernel_rfl
theorem yA55 : aggOf Tryz.prog 55 = some true := by kernel_rfl
theorem yS55 : szOf Tryz.prog 55 = some 5 := by kernel_rfl
theorem yF55_1 : fldOf Tryz.prog 55 1 = some (1, 9) := by kernel_rfl
theorem yF55_3 : fldOf Tryz.prog 55 3 = some (3, 36) := by kernel_rfl
theorem yF55_4 : fldOf Tryz.prog 55 4 = some (4, 53) := by kernel_rfl
theorem yF99_2 : fldOf Tryz.prog 99 2 = some (2, 97) := by kernel_rfl
theorem yA97 : aggOf Tryz.prog 97 = some false := by kernel_rfl
theorem yU97 : Tryz.prog.underlying 97 = some (.slice 168) := by kernel_rfl
theorem yE97 : elOf Tryz.prog 97 = some (168, 10) := by kernel_rfl
theorem yA168 : aggOf Tryz.prog 168 = some true := by kernel_rfl
theorem yS168 : szOf Tryz.prog 168 = some 10 := by kernel_rfl
theorem yF168_0 : fldOf Tryz.prog 168 0 = some (0, 55) := by kernel_rfl
theorem yF168_1 : fldOf Tryz.prog 168 1 = some (5, 55) := by kernel_rfl
theorem yZ31 : zcells Tryz.prog 31 = some [.nl, .nl, .t (.sc (.int .i64 0)), .t (.sc (.int .i64 0)), .t (.sc (.int .i64 0))] := by kernel_rfl
theorem yP28 : apOf Tryz.prog 28 = some (66, 48, 3) := by kernel_rfl
theorem yR66 : zrow Tryz.prog 66 = some [(.sc (.str ⟨#[]⟩)), .sl [], (.sc (.int .i64 0))] := by kernel_rfl
theorem yZ66 : zcells Tryz.prog 66 = some [.t (.sc (.str ⟨#[]⟩)), .nl, .t (.sc (.int .i64 0))] := by kernel_rfl
theorem yF66_0 : fldOf Tryz.prog 66 0 = some (0, 9) := by kernel_rfl
theorem yS9 : szOf Tryz.prog 9 = some 1 := by kernel_rfl
theorem yP36 : apOf Tryz.prog 36 = some (3, 8, 1) := by kernel_rfl
theorem yR3 : zrow Tryz.prog 3 = some [(.sc (.int .i64 0))] := by kernel_rfl
theorem yE36 : elOf Tryz.prog 36 = some (3, 1) := by kernel_rfl
theorem yA3 : aggOf Tryz.prog 3 = some false := by kernel_rfl
theorem yS3 : szOf Tryz.prog 3 = some 1 := by kernel_rfl
theorem yF66_1 : fldOf Tryz.prog 66 1 = some (1, 36) := by kernel_rfl
theorem yS36 : szOf Tryz.prog 36 = some 1 := by kernel_rfl
theorem yF95_2 : fldOf Tryz.prog 95 2 = some (2, 3) := by kernel_rfl
theorem yF66_2 : fldOf Tryz.prog 66 2 = some (2, 3) := by kernel_rfl
theorem yA66 : aggOf Tryz.prog 66 = some true := by kernel_rfl
theorem yS66 : szOf Tryz.prog 66 = some 3 := by kernel_rfl
theorem yE28 : elOf Tryz.prog 28 = some (66, 3) := by kernel_rfl
theorem yF31_0 : fldOf Tryz.prog 31 0 = some (0, 28) := by kernel_rfl
theorem yS28 : szOf Tryz.prog 28 = some 1 := by kernel_rfl
theorem yP29 : apOf Tryz.prog 29 = some (69, 56, 3) := by kernel_rfl
theorem yR69 : zrow Tryz.prog 69 = some [(.sc (.int .i64 0)), .sl [], .sl []] := by kernel_rfl
theorem yZ69 : zcells Tryz.prog 69 = some [.t (.sc (.int .i64 0)), .nl, .nl] := by kernel_rfl
theorem yF99_0 : fldOf Tryz.prog 99 0 = some (0, 3) := by kernel_rfl
theorem yF69_0 : fldOf Tryz.prog 69 0 = some (0, 3) := by kernel_rfl
theorem yP37 : apOf Tryz.prog 37 = some (39, 80, 5) := by kernel_rfl
theorem yR39 : zrow Tryz.prog 39 = some [(.sc (.int .i64 0)), (.sc (.str ⟨#[]⟩)), (.sc (.int .i64 0)), .sl [], .sl []] := by kernel_rfl
theorem yZ39 : zcells Tryz.prog 39 = some [.t (.sc (.int .i64 0)), .t (.sc (.str ⟨#[]⟩)), .t (.sc (.int .i64 0)), .nl, .nl] := by kernel_rfl
theorem yF55_0 : fldOf Tryz.prog 55 0 = some (0, 3) := by kernel_rfl
theorem yF39_0 : fldOf Tryz.prog 39 0 = some (0, 3) := by kernel_rfl
theorem yF39_1 : fldOf Tryz.prog 39 1 = some (1, 9) := by kernel_rfl
theorem yF55_2 : fldOf Tryz.prog 55 2 = some (2, 3) := by kernel_rfl
theorem yF39_2 : fldOf Tryz.prog 39 2 = some (2, 3) := by kernel_rfl
theorem yF39_3 : fldOf Tryz.prog 39 3 = some (3, 36) := by kernel_rfl
theorem yF39_4 : fldOf Tryz.prog 39 4 = some (4, 37) := by kernel_rfl
theorem yS37 : szOf Tryz.prog 37 = some 1 := by kernel_rfl
theorem yA39 : aggOf Tryz.prog 39 = some true := by kernel_rfl
theorem yS39 : szOf Tryz.prog 39 = some 5 := by kernel_rfl
theorem yE37 : elOf Tryz.prog 37 = some (39, 5) := by kernel_rfl
theorem yF69_1 : fldOf Tryz.prog 69 1 = some (1, 37) := by kernel_rfl
theorem yP67 : apOf Tryz.prog 67 = some (104, 160, 10) := by kernel_rfl
theorem yR104 : zrow Tryz.prog 104 = some [(.sc (.int .i64 0)), (.sc (.str ⟨#[]⟩)), (.sc (.int .i64 0)), .sl [], .sl [], (.sc (.int .i64 0)), (.sc (.str ⟨#[]⟩)), (.sc (.int .i64 0)), .sl [], .sl []] := by kernel_rfl
theorem yZ104 : zcells Tryz.prog 104 = some [.t (.sc (.int .i64 0)), .t (.sc (.str ⟨#[]⟩)), .t (.sc (.int .i64 0)), .nl, .nl, .t (.sc (.int .i64 0)), .t (.sc (.str ⟨#[]⟩)), .t (.sc (.int .i64 0)), .nl, .nl] := by kernel_rfl
theorem yF104_0 : fldOf Tryz.prog 104 0 = some (0, 39) := by kernel_rfl
theorem yF104_1 : fldOf Tryz.prog 104 1 = some (5, 39) := by kernel_rfl
theorem yA104 : aggOf Tryz.prog 104 = some true := by kernel_rfl
theorem yS104 : szOf Tryz.prog 104 = some 10 := by kernel_rfl
theorem yE67 : elOf Tryz.prog 67 = some (104, 10) := by kernel_rfl
theorem yF69_2 : fldOf Tryz.prog 69 2 = some (2, 67) := by kernel_rfl
theorem yS67 : szOf Tryz.prog 67 = some 1 := by kernel_rfl
theorem yA69 : aggOf Tryz.prog 69 = some true := by kernel_rfl
theorem yS69 : szOf Tryz.prog 69 = some 3 := by kernel_rfl
theorem yE29 : elOf Tryz.prog 29 = some (69, 3) := by kernel_rfl
theorem yF31_1 : fldOf Tryz.prog 31 1 = some (1, 29) := by kernel_rfl
theorem yS29 : szOf Tryz.prog 29 = some 1 := by kernel_rfl
theorem yF25_2 : fldOf Tryz.prog 25 2 = some (2, 3) := by kernel_rfl
theorem yF31_2 : fldOf Tryz.prog 31 2 = some (2, 3) := by kernel_rfl
theorem yF25_3 : fldOf Tryz.prog 25 3 = some (3, 3) := by kernel_rfl
theorem yF31_3 : fldOf Tryz.prog 31 3 = some (3, 3) := by kernel_rfl
theorem yF25_4 : fldOf Tryz.prog 25 4 = some (4, 3) := by kernel_rfl
theorem yF31_4 : fldOf Tryz.prog 31 4 = some (4, 3) := by kernel_rfl
theorem yA31 : aggOf Tryz.prog 31 = some true := by kernel_rfl
theorem yS31 : szOf Tryz.prog 31 = some 5 := by kernel_rfl
theorem yA28 : aggOf Tryz.prog 28 = some false := by kernel_rfl
theorem yU28 : Tryz.prog.underlying 28 = some (.slice 66) := by kernel_rfl
theorem yMix : Tryz.prog.follows .mixedOrders = true := by kernel_rfl
theorem yA29 : aggOf Tryz.prog 29 = some false := by kernel_rfl
theorem yU29 : Tryz.prog.underlying 29 = some (.slice 69) := by kernel_rfl
theorem yA67 : aggOf Tryz.prog 67 = some false := by kernel_rfl
theorem yA37 : aggOf Tryz.prog 37 = some false := by kernel_rfl
theorem yU67 : Tryz.prog.underlying 67 = some (.slice 104) := by kernel_rfl
theorem yU37 : Tryz.prog.underlying 37 = some (.slice 39) := by kernel_rfl
theorem yP40 : apOf Tryz.prog 40 = some (50, 192, 12) := by kernel_rfl
theorem yR50 : zrow Tryz.prog 50 = some [(.sc (.int .i64 0)), (.sc (.str ⟨#[]⟩)), (.sc (.int .i64 0)), .sl [], .sl [], (.sc (.int .i64 0)), (.sc (.int .i64 0)), (.sc (.str ⟨#[]⟩)), (.sc (.int .i64 0)), .sl [], .sl [], .sl []] := by kernel_rfl
theorem yZ50 : zcells Tryz.prog 50 = some [.t (.sc (.int .i64 0)), .t (.sc (.str ⟨#[]⟩)), .t (.sc (.int .i64 0)), .nl, .nl, .t (.sc (.int .i64 0)), .t (.sc (.int .i64 0)), .t (.sc (.str ⟨#[]⟩)), .t (.sc (.int .i64 0)), .nl, .nl, .nl] := by kernel_rfl
theorem yL50 : placesOf Tryz.prog 50 = some [(0, 5), (5, 1), (6, 5), (11, 1)] := by kernel_rfl
theorem yS50 : szOf Tryz.prog 50 = some 12 := by kernel_rfl
theorem yF50_1 : fldOf Tryz.prog 50 1 = some (5, 3) := by kernel_rfl
theorem yF50_2 : fldOf Tryz.prog 50 2 = some (6, 39) := by kernel_rfl
theorem yA50 : aggOf Tryz.prog 50 = some true := by kernel_rfl
theorem yU40 : Tryz.prog.underlying 40 = some (.slice 50) := by kernel_rfl
theorem yE40 : elOf Tryz.prog 40 = some (50, 12) := by kernel_rfl
theorem yF50_0 : fldOf Tryz.prog 50 0 = some (0, 39) := by kernel_rfl
theorem yZ3 : zcells Tryz.prog 3 = some [.t (.sc (.int .i64 0))] := by kernel_rfl
theorem yZ37 : zcells Tryz.prog 37 = some [.nl] := by kernel_rfl
theorem yZ36 : zcells Tryz.prog 36 = some [.nl] := by kernel_rfl
theorem yZ4 : zcells Tryz.prog 4 = some [.t (.sc (.bool false))] := by kernel_rfl
theorem yS4 : szOf Tryz.prog 4 = some 1 := by kernel_rfl
theorem yA4 : aggOf Tryz.prog 4 = some false := by kernel_rfl
theorem yU4 : Tryz.prog.underlying 4 = some .bool := by kernel_rfl
end Go.Abs
