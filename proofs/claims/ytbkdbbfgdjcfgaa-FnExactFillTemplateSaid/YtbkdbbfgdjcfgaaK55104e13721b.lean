/- A part of the proof: what the functions that the law calls answer, as pure values. -/
import Derived.Test.YtbkdbbfgdjcfgaaK69e8a0ebd724
import Derived.Test.YtbkdbbfgdjcfgaaProg
set_option linter.unusedSimpArgs false
set_option linter.unusedVariables false
set_option maxRecDepth 100000
set_option maxHeartbeats 4000000
namespace Go.Abs
open Go.Proofs
theorem yA60 : aggOf Try.prog 60 = some true := by kernel_rfl
theorem yS60 : szOf Try.prog 60 = some 12 := by kernel_rfl
theorem yF60_0 : fldOf Try.prog 60 0 = some (0, 25) := by kernel_rfl
theorem yA25 : aggOf Try.prog 25 = some true := by kernel_rfl
theorem yS25 : szOf Try.prog 25 = some 5 := by kernel_rfl
theorem yF25_1 : fldOf Try.prog 25 1 = some (1, 9) := by kernel_rfl
theorem yA9 : aggOf Try.prog 9 = some false := by kernel_rfl
theorem yU9 : Try.prog.underlying 9 = some .string := by kernel_rfl
theorem yF25_3 : fldOf Try.prog 25 3 = some (3, 22) := by kernel_rfl
theorem yA22 : aggOf Try.prog 22 = some false := by kernel_rfl
theorem yU22 : Try.prog.underlying 22 = some (.slice 3) := by kernel_rfl
theorem yF25_4 : fldOf Try.prog 25 4 = some (4, 23) := by kernel_rfl
theorem yA23 : aggOf Try.prog 23 = some false := by kernel_rfl
theorem yU23 : Try.prog.underlying 23 = some (.slice 25) := by kernel_rfl
theorem yE23 : elOf Try.prog 23 = some (25, 5) := by kernel_rfl
theorem yF60_2 : fldOf Try.prog 60 2 = some (6, 25) := by kernel_rfl
theorem yF60_3 : fldOf Try.prog 60 3 = some (11, 58) := by kernel_rfl
theorem yA58 : aggOf Try.prog 58 = some false := by kernel_rfl
theorem yU58 : Try.prog.underlying 58 = some (.slice 60) := by kernel_rfl
theorem yE58 : elOf Try.prog 58 = some (60, 12) := by kernel_rfl
theorem yZ65 : zcells Try.prog 65 = some [.t (.sc (.int .i64 0)), .t (.sc (.str ⟨#[]⟩)), .t (.sc (.int .i64 0)), .nl, .nl, .t (.sc (.int .i64 0)), .t (.sc (.int .i64 0)), .t (.sc (.str ⟨#[]⟩)), .t (.sc (.int .i64 0)), .nl, .nl, .nl] := by kernel_rfl
theorem yZ34 : zcells Try.prog 34 = some [.t (.sc (.int .i64 0)), .t (.sc (.str ⟨#[]⟩)), .t (.sc (.int .i64 0)), .nl, .nl] := by kernel_rfl
theorem yF25_0 : fldOf Try.prog 25 0 = some (0, 3) := by kernel_rfl
theorem yA3 : aggOf Try.prog 3 = some false := by kernel_rfl
theorem yF34_0 : fldOf Try.prog 34 0 = some (0, 3) := by kernel_rfl
theorem yS3 : szOf Try.prog 3 = some 1 := by kernel_rfl
theorem yF34_1 : fldOf Try.prog 34 1 = some (1, 9) := by kernel_rfl
theorem yS9 : szOf Try.prog 9 = some 1 := by kernel_rfl
theorem yF25_2 : fldOf Try.prog 25 2 = some (2, 3) := by kernel_rfl
theorem yF34_2 : fldOf Try.prog 34 2 = some (2, 3) := by kernel_rfl
theorem yP22 : apOf Try.prog 22 = some (3, 8, 1) := by kernel_rfl
theorem yR3 : zrow Try.prog 3 = some [(.sc (.int .i64 0))] := by kernel_rfl
theorem yE22 : elOf Try.prog 22 = some (3, 1) := by kernel_rfl
theorem yF34_3 : fldOf Try.prog 34 3 = some (3, 22) := by kernel_rfl
theorem yS22 : szOf Try.prog 22 = some 1 := by kernel_rfl
theorem yP32 : apOf Try.prog 32 = some (34, 80, 5) := by kernel_rfl
theorem yR34 : zrow Try.prog 34 = some [(.sc (.int .i64 0)), (.sc (.str ⟨#[]⟩)), (.sc (.int .i64 0)), .sl [], .sl []] := by kernel_rfl
theorem yE32 : elOf Try.prog 32 = some (34, 5) := by kernel_rfl
theorem yS34 : szOf Try.prog 34 = some 5 := by kernel_rfl
theorem yF34_4 : fldOf Try.prog 34 4 = some (4, 32) := by kernel_rfl
theorem yS32 : szOf Try.prog 32 = some 1 := by kernel_rfl
theorem yA34 : aggOf Try.prog 34 = some true := by kernel_rfl
theorem yF65_0 : fldOf Try.prog 65 0 = some (0, 34) := by kernel_rfl
theorem yF60_1 : fldOf Try.prog 60 1 = some (5, 3) := by kernel_rfl
theorem yF65_1 : fldOf Try.prog 65 1 = some (5, 3) := by kernel_rfl
theorem yF65_2 : fldOf Try.prog 65 2 = some (6, 34) := by kernel_rfl
theorem yP63 : apOf Try.prog 63 = some (65, 192, 12) := by kernel_rfl
theorem yR65 : zrow Try.prog 65 = some [(.sc (.int .i64 0)), (.sc (.str ⟨#[]⟩)), (.sc (.int .i64 0)), .sl [], .sl [], (.sc (.int .i64 0)), (.sc (.int .i64 0)), (.sc (.str ⟨#[]⟩)), (.sc (.int .i64 0)), .sl [], .sl [], .sl []] := by kernel_rfl
theorem yE63 : elOf Try.prog 63 = some (65, 12) := by kernel_rfl
theorem yS65 : szOf Try.prog 65 = some 12 := by kernel_rfl
theorem yF65_3 : fldOf Try.prog 65 3 = some (11, 63) := by kernel_rfl
theorem yS63 : szOf Try.prog 63 = some 1 := by kernel_rfl
theorem yA65 : aggOf Try.prog 65 = some true := by kernel_rfl
theorem yMix : Try.prog.follows .mixedOrders = true := by kernel_rfl
theorem yA32 : aggOf Try.prog 32 = some false := by kernel_rfl
theorem yU32 : Try.prog.underlying 32 = some (.slice 34) := by kernel_rfl
theorem yA63 : aggOf Try.prog 63 = some false := by kernel_rfl
theorem yU63 : Try.prog.underlying 63 = some (.slice 65) := by kernel_rfl
theorem yL34 : placesOf Try.prog 34 = some [(0, 1), (1, 1), (2, 1), (3, 1), (4, 1)] := by kernel_rfl
theorem yI34 : ∃ x, Try.prog.info? 34 = some x := Option.isSome_iff_exists.mp (by kernel_rfl : (Try.prog.info? 34).isSome = true)
theorem yN34 : ([.sc (.int .i64 0), .sc (.str (⟨#[]⟩ : ByteArray)), .sc (.int .i64 0), .sc (.nis 3), .sc (.nis 34)] : List T).all (T.nisB Try.prog) = true := by kernel_rfl
theorem yN65 : ([.sc (.int .i64 0), .sc (.str (⟨#[]⟩ : ByteArray)), .sc (.int .i64 0), .sc (.nis 3), .sc (.nis 34), .sc (.int .i64 0), .sc (.int .i64 0), .sc (.str (⟨#[]⟩ : ByteArray)), .sc (.int .i64 0), .sc (.nis 3), .sc (.nis 34), .sc (.nis 65)] : List T).all (T.nisB Try.prog) = true := by kernel_rfl
theorem yZ3 : zcells Try.prog 3 = some [.t (.sc (.int .i64 0))] := by kernel_rfl
theorem yI3 : ∃ x, Try.prog.info? 3 = some x := Option.isSome_iff_exists.mp (by kernel_rfl : (Try.prog.info? 3).isSome = true)
theorem yU3 : Try.prog.underlying 3 = some (.int .i64) := by kernel_rfl
theorem yU5 : Try.prog.underlying 5 = some (.int .u8) := by kernel_rfl
theorem yP132 : apOf Try.prog 132 = some (5, 1, 1) := by kernel_rfl
theorem yR5 : zrow Try.prog 5 = some [(.sc (.int .u8 0))] := by kernel_rfl
theorem yU132 : Try.prog.underlying 132 = some (.slice 5) := by kernel_rfl
theorem yE132 : elOf Try.prog 132 = some (5, 1) := by kernel_rfl
theorem yU44 : Try.prog.underlying 44 = some (.slice 101) := by kernel_rfl
theorem yE44 : elOf Try.prog 44 = some (101, 10) := by kernel_rfl
theorem yA101 : aggOf Try.prog 101 = some true := by kernel_rfl
theorem yS101 : szOf Try.prog 101 = some 10 := by kernel_rfl
theorem yF101_0 : fldOf Try.prog 101 0 = some (0, 25) := by kernel_rfl
theorem yF101_1 : fldOf Try.prog 101 1 = some (5, 25) := by kernel_rfl
theorem yP48 : apOf Try.prog 48 = some (105, 160, 10) := by kernel_rfl
theorem yR105 : zrow Try.prog 105 = some [(.sc (.int .i64 0)), (.sc (.str ⟨#[]⟩)), (.sc (.int .i64 0)), .sl [], .sl [], (.sc (.int .i64 0)), (.sc (.str ⟨#[]⟩)), (.sc (.int .i64 0)), .sl [], .sl []] := by kernel_rfl
theorem yZ105 : zcells Try.prog 105 = some [.t (.sc (.int .i64 0)), .t (.sc (.str ⟨#[]⟩)), .t (.sc (.int .i64 0)), .nl, .nl, .t (.sc (.int .i64 0)), .t (.sc (.str ⟨#[]⟩)), .t (.sc (.int .i64 0)), .nl, .nl] := by kernel_rfl
theorem yF105_0 : fldOf Try.prog 105 0 = some (0, 34) := by kernel_rfl
theorem yF105_1 : fldOf Try.prog 105 1 = some (5, 34) := by kernel_rfl
theorem yA105 : aggOf Try.prog 105 = some true := by kernel_rfl
theorem yS105 : szOf Try.prog 105 = some 10 := by kernel_rfl
theorem yE48 : elOf Try.prog 48 = some (105, 10) := by kernel_rfl
theorem yU48 : Try.prog.underlying 48 = some (.slice 105) := by kernel_rfl
theorem yL65 : placesOf Try.prog 65 = some [(0, 5), (5, 1), (6, 5), (11, 1)] := by kernel_rfl
theorem yU4 : Try.prog.underlying 4 = some .bool := by kernel_rfl
theorem yN105 : ([.sc (.int .i64 0), .sc (.str (⟨#[]⟩ : ByteArray)), .sc (.int .i64 0), .sc (.nis 3), .sc (.nis 34), .sc (.int .i64 0), .sc (.str (⟨#[]⟩ : ByteArray)), .sc (.int .i64 0), .sc (.nis 3), .sc (.nis 34)] : List T).all (T.nisB Try.prog) = true := by kernel_rfl
theorem yZ32 : zcells Try.prog 32 = some [.nl] := by kernel_rfl
theorem yZ22 : zcells Try.prog 22 = some [.nl] := by kernel_rfl
theorem yZ4 : zcells Try.prog 4 = some [.t (.sc (.bool false))] := by kernel_rfl
theorem yS4 : szOf Try.prog 4 = some 1 := by kernel_rfl
theorem yA4 : aggOf Try.prog 4 = some false := by kernel_rfl
theorem yI65 : ∃ x, Try.prog.info? 65 = some x := Option.isSome_iff_exists.mp (by kernel_rfl : (Try.prog.info? 65).isSome = true)
theorem yA28 : aggOf Try.prog 28 = some true := by kernel_rfl
theorem yS28 : szOf Try.prog 28 = some 11 := by kernel_rfl
theorem yF28_2 : fldOf Try.prog 28 2 = some (2, 9) := by kernel_rfl
theorem yF28_4 : fldOf Try.prog 28 4 = some (4, 22) := by kernel_rfl
theorem yF28_5 : fldOf Try.prog 28 5 = some (5, 25) := by kernel_rfl
theorem yF28_6 : fldOf Try.prog 28 6 = some (10, 26) := by kernel_rfl
theorem yA26 : aggOf Try.prog 26 = some false := by kernel_rfl
theorem yU26 : Try.prog.underlying 26 = some (.slice 28) := by kernel_rfl
theorem yE26 : elOf Try.prog 26 = some (28, 11) := by kernel_rfl
theorem yZ37 : zcells Try.prog 37 = some [.t (.sc (.int .i64 0)), .t (.sc (.int .i64 0)), .t (.sc (.str ⟨#[]⟩)), .t (.sc (.int .i64 0)), .nl, .t (.sc (.int .i64 0)), .t (.sc (.str ⟨#[]⟩)), .t (.sc (.int .i64 0)), .nl, .nl, .nl] := by kernel_rfl
theorem yF28_0 : fldOf Try.prog 28 0 = some (0, 3) := by kernel_rfl
theorem yF37_0 : fldOf Try.prog 37 0 = some (0, 3) := by kernel_rfl
theorem yF28_1 : fldOf Try.prog 28 1 = some (1, 3) := by kernel_rfl
theorem yF37_1 : fldOf Try.prog 37 1 = some (1, 3) := by kernel_rfl
theorem yF37_2 : fldOf Try.prog 37 2 = some (2, 9) := by kernel_rfl
theorem yF28_3 : fldOf Try.prog 28 3 = some (3, 3) := by kernel_rfl
theorem yF37_3 : fldOf Try.prog 37 3 = some (3, 3) := by kernel_rfl
theorem yF37_4 : fldOf Try.prog 37 4 = some (4, 22) := by kernel_rfl
theorem yF37_5 : fldOf Try.prog 37 5 = some (5, 34) := by kernel_rfl
theorem yP35 : apOf Try.prog 35 = some (37, 168, 11) := by kernel_rfl
theorem yR37 : zrow Try.prog 37 = some [(.sc (.int .i64 0)), (.sc (.int .i64 0)), (.sc (.str ⟨#[]⟩)), (.sc (.int .i64 0)), .sl [], (.sc (.int .i64 0)), (.sc (.str ⟨#[]⟩)), (.sc (.int .i64 0)), .sl [], .sl [], .sl []] := by kernel_rfl
theorem yE35 : elOf Try.prog 35 = some (37, 11) := by kernel_rfl
theorem yS37 : szOf Try.prog 37 = some 11 := by kernel_rfl
theorem yF37_6 : fldOf Try.prog 37 6 = some (10, 35) := by kernel_rfl
theorem yS35 : szOf Try.prog 35 = some 1 := by kernel_rfl
theorem yA37 : aggOf Try.prog 37 = some true := by kernel_rfl
theorem yA35 : aggOf Try.prog 35 = some false := by kernel_rfl
theorem yU35 : Try.prog.underlying 35 = some (.slice 37) := by kernel_rfl
theorem yL37 : placesOf Try.prog 37 = some [(0, 1), (1, 1), (2, 1), (3, 1), (4, 1), (5, 5), (10, 1)] := by kernel_rfl
theorem yI37 : ∃ x, Try.prog.info? 37 = some x := Option.isSome_iff_exists.mp (by kernel_rfl : (Try.prog.info? 37).isSome = true)
theorem yN37 : ([.sc (.int .i64 0), .sc (.int .i64 0), .sc (.str (⟨#[]⟩ : ByteArray)), .sc (.int .i64 0), .sc (.nis 3), .sc (.int .i64 0), .sc (.str (⟨#[]⟩ : ByteArray)), .sc (.int .i64 0), .sc (.nis 3), .sc (.nis 34), .sc (.nis 37)] : List T).all (T.nisB Try.prog) = true := by kernel_rfl
theorem yM149 : mapII Try.prog 149 = true := by kernel_rfl
theorem yL105 : placesOf Try.prog 105 = some [(0, 5), (5, 5)] := by kernel_rfl
theorem yI105 : ∃ x, Try.prog.info? 105 = some x := Option.isSome_iff_exists.mp (by kernel_rfl : (Try.prog.info? 105).isSome = true)
theorem yP30 : apOf Try.prog 30 = some (9, 16, 1) := by kernel_rfl
theorem yR9 : zrow Try.prog 9 = some [(.sc (.str ⟨#[]⟩))] := by kernel_rfl
theorem yU30 : Try.prog.underlying 30 = some (.slice 9) := by kernel_rfl
theorem yE30 : elOf Try.prog 30 = some (9, 1) := by kernel_rfl
theorem yI9 : ∃ x, Try.prog.info? 9 = some x := Option.isSome_iff_exists.mp (by kernel_rfl : (Try.prog.info? 9).isSome = true)
end Go.Abs
