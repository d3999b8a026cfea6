/- A part of the proof: what the functions that the law calls answer, as pure values. -/
import Derived.Test.YtcebadpiebamdaaK433bdd507a07
import Derived.Test.YtcebadpiebamdaaProg
set_option linter.unusedSimpArgs false
set_option linter.unusedVariables false
set_option maxRecDepth 100000
set_option maxHeartbeats 4000000
namespace Go.Abs
open Go.Proofs
theorem yA25 : aggOf Try.prog 25 = some true := by kernel_rfl
theorem yS25 : szOf Try.prog 25 = some 5 := by kernel_rfl
theorem yF25_1 : fldOf Try.prog 25 1 = some (1, 9) := by kernel_rfl
theorem yA9 : aggOf Try.prog 9 = some false := by kernel_rfl
theorem yU9 : Try.prog.underlying 9 = some .string := by kernel_rfl
theorem yF25_3 : fldOf Try.prog 25 3 = some (3, 22) := by kernel_rfl
theorem yA22 : aggOf Try.prog 22 = some false := by kernel_rfl
theorem yU22 : Try.prog.underlying 22 = some (.slice 3) := by kernel_rfl
theorem yF25_4 : fldOf Try.prog 25 4 = some (4, 23) := by kernel_rfl
theorem yA23 : aggOf Try.prog 23 = some false := by kernel_rfl
theorem yU23 : Try.prog.underlying 23 = some (.slice 25) := by kernel_rfl
theorem yE23 : elOf Try.prog 23 = some (25, 5) := by kernel_rfl
theorem yZ31 : zcells Try.prog 31 = some [.t (.sc (.int .i64 0)), .t (.sc (.str ⟨#[]⟩)), .t (.sc (.int .i64 0)), .nl, .nl] := by kernel_rfl
theorem yF25_0 : fldOf Try.prog 25 0 = some (0, 3) := by kernel_rfl
theorem yA3 : aggOf Try.prog 3 = some false := by kernel_rfl
theorem yF31_0 : fldOf Try.prog 31 0 = some (0, 3) := by kernel_rfl
theorem yS3 : szOf Try.prog 3 = some 1 := by kernel_rfl
theorem yF31_1 : fldOf Try.prog 31 1 = some (1, 9) := by kernel_rfl
theorem yS9 : szOf Try.prog 9 = some 1 := by kernel_rfl
theorem yF25_2 : fldOf Try.prog 25 2 = some (2, 3) := by kernel_rfl
theorem yF31_2 : fldOf Try.prog 31 2 = some (2, 3) := by kernel_rfl
theorem yP22 : apOf Try.prog 22 = some (3, 8, 1) := by kernel_rfl
theorem yR3 : zrow Try.prog 3 = some [(.sc (.int .i64 0))] := by kernel_rfl
theorem yE22 : elOf Try.prog 22 = some (3, 1) := by kernel_rfl
theorem yF31_3 : fldOf Try.prog 31 3 = some (3, 22) := by kernel_rfl
theorem yS22 : szOf Try.prog 22 = some 1 := by kernel_rfl
theorem yP28 : apOf Try.prog 28 = some (31, 80, 5) := by kernel_rfl
theorem yR31 : zrow Try.prog 31 = some [(.sc (.int .i64 0)), (.sc (.str ⟨#[]⟩)), (.sc (.int .i64 0)), .sl [], .sl []] := by kernel_rfl
theorem yE28 : elOf Try.prog 28 = some (31, 5) := by kernel_rfl
theorem yS31 : szOf Try.prog 31 = some 5 := by kernel_rfl
theorem yF31_4 : fldOf Try.prog 31 4 = some (4, 28) := by kernel_rfl
theorem yS28 : szOf Try.prog 28 = some 1 := by kernel_rfl
theorem yA31 : aggOf Try.prog 31 = some true := by kernel_rfl
theorem yA28 : aggOf Try.prog 28 = some false := by kernel_rfl
theorem yU28 : Try.prog.underlying 28 = some (.slice 31) := by kernel_rfl
theorem yMix : Try.prog.follows .mixedOrders = true := by kernel_rfl
theorem yN31 : ([.sc (.int .i64 0), .sc (.str (⟨#[]⟩ : ByteArray)), .sc (.int .i64 0), .sc (.nis 3), .sc (.nis 31)] : List T).all (T.nisB Try.prog) = true := by kernel_rfl
theorem yZ3 : zcells Try.prog 3 = some [.t (.sc (.int .i64 0))] := by kernel_rfl
theorem yZ28 : zcells Try.prog 28 = some [.nl] := by kernel_rfl
theorem yZ22 : zcells Try.prog 22 = some [.nl] := by kernel_rfl
theorem yI31 : ∃ x, Try.prog.info? 31 = some x := Option.isSome_iff_exists.mp (by kernel_rfl : (Try.prog.info? 31).isSome = true)
theorem yI3 : ∃ x, Try.prog.info? 3 = some x := Option.isSome_iff_exists.mp (by kernel_rfl : (Try.prog.info? 3).isSome = true)
theorem yL31 : placesOf Try.prog 31 = some [(0, 1), (1, 1), (2, 1), (3, 1), (4, 1)] := by kernel_rfl
theorem yU3 : Try.prog.underlying 3 = some (.int .i64) := by kernel_rfl
theorem yU5 : Try.prog.underlying 5 = some (.int .u8) := by kernel_rfl
theorem yP58 : apOf Try.prog 58 = some (5, 1, 1) := by kernel_rfl
theorem yR5 : zrow Try.prog 5 = some [(.sc (.int .u8 0))] := by kernel_rfl
theorem yU58 : Try.prog.underlying 58 = some (.slice 5) := by kernel_rfl
theorem yE58 : elOf Try.prog 58 = some (5, 1) := by kernel_rfl
end Go.Abs
