/- A part of the proof: what the functions that the law calls answer, as pure values. -/
import Derived.Test.YtjmfepncipfenaaDoorK10e2c01bef4a
import Derived.Test.YtjmfepncipfenaaDoorProg
set_option linter.unusedSimpArgs false
set_option linter.unusedVariables false
set_option maxRecDepth 100000
set_option maxHeartbeats 4000000
namespace Go.Abs
open Go.Proofs
theorem yZ25 : zcells Tryd.prog 25 = some [.nl, .nl, .t (.sc (.int .i64 0)), .t (.sc (.int .i64 0)), .t (.sc (.int .i64 0))] := by kernel_rfl
theorem yL25 : placesOf Tryd.prog 25 = some [(0, 1), (1, 1), (2, 1), (3, 1), (4, 1)] := by kernel_rfl
theorem yS25 : szOf Tryd.prog 25 = some 5 := by kernel_rfl
theorem yP30 : apOf Tryd.prog 30 = some (9, 16, 1) := by kernel_rfl
theorem yR9 : zrow Tryd.prog 9 = some [(.sc (.str ⟨#[]⟩))] := by kernel_rfl
theorem yU30 : Tryd.prog.underlying 30 = some (.slice 9) := by kernel_rfl
theorem yA25 : aggOf Tryd.prog 25 = some true := by kernel_rfl
theorem yMix : Tryd.prog.follows .mixedOrders = true := by kernel_rfl
theorem yF25_0 : fldOf Tryd.prog 25 0 = some (0, 22) := by kernel_rfl
theorem yA22 : aggOf Tryd.prog 22 = some false := by kernel_rfl
theorem yE30 : elOf Tryd.prog 30 = some (9, 1) := by kernel_rfl
theorem yA9 : aggOf Tryd.prog 9 = some false := by kernel_rfl
theorem yZ34 : zcells Tryd.prog 34 = some [.t (.sc (.str ⟨#[]⟩)), .nl, .t (.sc (.int .i64 0))] := by kernel_rfl
theorem yL34 : placesOf Tryd.prog 34 = some [(0, 1), (1, 1), (2, 1)] := by kernel_rfl
theorem yP22 : apOf Tryd.prog 22 = some (34, 48, 3) := by kernel_rfl
theorem yR34 : zrow Tryd.prog 34 = some [(.sc (.str ⟨#[]⟩)), .sl [], (.sc (.int .i64 0))] := by kernel_rfl
theorem yS22 : szOf Tryd.prog 22 = some 1 := by kernel_rfl
theorem yI34 : ∃ x, Tryd.prog.info? 34 = some x := Option.isSome_iff_exists.mp (by kernel_rfl : (Tryd.prog.info? 34).isSome = true)
theorem yG0 : Tryd.prog.globalNamed "loop.example/macroexpander/impl.coreForms" = some 0 := by kernel_rfl
theorem yA35 : aggOf Tryd.prog 35 = some true := by kernel_rfl
theorem yS35 : szOf Tryd.prog 35 = some 5 := by kernel_rfl
theorem yI45 : ∃ x, Tryd.prog.info? 45 = some x := Option.isSome_iff_exists.mp (by kernel_rfl : (Tryd.prog.info? 45).isSome = true)
theorem yU35 : Tryd.prog.underlying 35 = some (.array 5 9) := by kernel_rfl
theorem yS9 : szOf Tryd.prog 9 = some 1 := by kernel_rfl
theorem yS3 : szOf Tryd.prog 3 = some 1 := by kernel_rfl
theorem yU22 : Tryd.prog.underlying 22 = some (.slice 34) := by kernel_rfl
theorem yE22 : elOf Tryd.prog 22 = some (34, 3) := by kernel_rfl
theorem yA34 : aggOf Tryd.prog 34 = some true := by kernel_rfl
theorem yS34 : szOf Tryd.prog 34 = some 3 := by kernel_rfl
theorem yF34_0 : fldOf Tryd.prog 34 0 = some (0, 9) := by kernel_rfl
theorem yF34_1 : fldOf Tryd.prog 34 1 = some (1, 32) := by kernel_rfl
theorem yA32 : aggOf Tryd.prog 32 = some false := by kernel_rfl
theorem yU32 : Tryd.prog.underlying 32 = some (.slice 3) := by kernel_rfl
theorem yE32 : elOf Tryd.prog 32 = some (3, 1) := by kernel_rfl
theorem yA3 : aggOf Tryd.prog 3 = some false := by kernel_rfl
theorem yF34_2 : fldOf Tryd.prog 34 2 = some (2, 3) := by kernel_rfl
theorem yF25_1 : fldOf Tryd.prog 25 1 = some (1, 23) := by kernel_rfl
theorem yA23 : aggOf Tryd.prog 23 = some false := by kernel_rfl
theorem yU23 : Tryd.prog.underlying 23 = some (.slice 45) := by kernel_rfl
theorem yE23 : elOf Tryd.prog 23 = some (45, 3) := by kernel_rfl
theorem yA45 : aggOf Tryd.prog 45 = some true := by kernel_rfl
theorem yS45 : szOf Tryd.prog 45 = some 3 := by kernel_rfl
theorem yF45_0 : fldOf Tryd.prog 45 0 = some (0, 3) := by kernel_rfl
theorem yF45_1 : fldOf Tryd.prog 45 1 = some (1, 42) := by kernel_rfl
theorem yA42 : aggOf Tryd.prog 42 = some false := by kernel_rfl
theorem yU42 : Tryd.prog.underlying 42 = some (.slice 55) := by kernel_rfl
theorem yE42 : elOf Tryd.prog 42 = some (55, 5) := by kernel_rfl
theorem yA55 : aggOf Tryd.prog 55 = some true := by kernel_rfl
theorem yS55 : szOf Tryd.prog 55 = some 5 := by kernel_rfl
theorem yF55_0 : fldOf Tryd.prog 55 0 = some (0, 3) := by kernel_rfl
theorem yF55_1 : fldOf Tryd.prog 55 1 = some (1, 9) := by kernel_rfl
theorem yF55_2 : fldOf Tryd.prog 55 2 = some (2, 3) := by kernel_rfl
theorem yF55_3 : fldOf Tryd.prog 55 3 = some (3, 32) := by kernel_rfl
theorem yF55_4 : fldOf Tryd.prog 55 4 = some (4, 42) := by kernel_rfl
theorem yF45_2 : fldOf Tryd.prog 45 2 = some (2, 43) := by kernel_rfl
theorem yA43 : aggOf Tryd.prog 43 = some false := by kernel_rfl
theorem yU43 : Tryd.prog.underlying 43 = some (.slice 57) := by kernel_rfl
theorem yE43 : elOf Tryd.prog 43 = some (57, 10) := by kernel_rfl
theorem yA57 : aggOf Tryd.prog 57 = some true := by kernel_rfl
theorem yS57 : szOf Tryd.prog 57 = some 10 := by kernel_rfl
theorem yF57_0 : fldOf Tryd.prog 57 0 = some (0, 55) := by kernel_rfl
theorem yF57_1 : fldOf Tryd.prog 57 1 = some (5, 55) := by kernel_rfl
theorem yF25_2 : fldOf Tryd.prog 25 2 = some (2, 3) := by kernel_rfl
theorem yF25_3 : fldOf Tryd.prog 25 3 = some (3, 3) := by kernel_rfl
theorem yF25_4 : fldOf Tryd.prog 25 4 = some (4, 3) := by kernel_rfl
theorem yU3 : Tryd.prog.underlying 3 = some (.int .i64) := by kernel_rfl
theorem yU5 : Tryd.prog.underlying 5 = some (.int .u8) := by kernel_rfl
theorem yP53 : apOf Tryd.prog 53 = some (5, 1, 1) := by kernel_rfl
theorem yR5 : zrow Tryd.prog 5 = some [(.sc (.int .u8 0))] := by kernel_rfl
theorem yU53 : Tryd.prog.underlying 53 = some (.slice 5) := by kernel_rfl
theorem yU9 : Tryd.prog.underlying 9 = some .string := by kernel_rfl
theorem yE53 : elOf Tryd.prog 53 = some (5, 1) := by kernel_rfl
end Go.Abs
