/- A part of the proof: what the functions that the law calls answer, as pure values. -/
import Derived.Test.YtcebadpiebamdaaGreatK3c12e1c5a40a
import Derived.Test.YtcebadpiebamdaaGreatProg
set_option linter.unusedSimpArgs false
set_option linter.unusedVariables false
set_option maxRecDepth 100000
set_option maxHeartbeats 4000000
namespace Go.Abs
open Go.Proofs
theorem yA51 : zc7 Tryz.prog 51 = some true := by kernel_rfl
theorem yS51 : szOf Tryz.prog 51 = some 5 := by kernel_rfl
theorem yF51_0 : zbJ Tryz.prog 51 0 = some (0, 22) := by kernel_rfl
theorem yA22 : zc7 Tryz.prog 22 = some false := by kernel_rfl
theorem yU22 : Tryz.prog.underlying 22 = some (.slice 77) := by kernel_rfl
theorem yE22 : elOf Tryz.prog 22 = some (77, 3) := by kernel_rfl
theorem yA77 : zc7 Tryz.prog 77 = some true := by kernel_rfl
theorem yS77 : szOf Tryz.prog 77 = some 3 := by kernel_rfl
theorem yF77_0 : zbJ Tryz.prog 77 0 = some (0, 9) := by kernel_rfl
theorem yA9 : zc7 Tryz.prog 9 = some false := by kernel_rfl
theorem yU9 : Tryz.prog.underlying 9 = some .string := by kernel_rfl
theorem yF77_1 : zbJ Tryz.prog 77 1 = some (1, 23) := by kernel_rfl
theorem yA23 : zc7 Tryz.prog 23 = some false := by kernel_rfl
theorem yU23 : Tryz.prog.underlying 23 = some (.slice 3) := by kernel_rfl
theorem yF51_1 : zbJ Tryz.prog 51 1 = some (1, 49) := by kernel_rfl
theorem yA49 : zc7 Tryz.prog 49 = some false := by kernel_rfl
theorem yU49 : Tryz.prog.underlying 49 = some (.slice 134) := by kernel_rfl
theorem yE49 : elOf Tryz.prog 49 = some (134, 3) := by kernel_rfl
theorem yA134 : zc7 Tryz.prog 134 = some true := by kernel_rfl
theorem yS134 : szOf Tryz.prog 134 = some 3 := by kernel_rfl
theorem yF134_1 : zbJ Tryz.prog 134 1 = some (1, 24) := by kernel_rfl
theorem yA24 : zc7 Tryz.prog 24 = some false := by kernel_rfl
theorem yU24 : Tryz.prog.underlying 24 = some (.slice 26) := by kernel_rfl
theorem yE24 : elOf Tryz.prog 24 = some (26, 5) := by kernel_rfl
theorem yA26 : zc7 Tryz.prog 26 = some true := by kernel_rfl
theorem yS26 : szOf Tryz.prog 26 = some 5 := by kernel_rfl
theorem yF26_1 : zbJ Tryz.prog 26 1 = some (1, 9) := by kernel_rfl
theorem yF26_3 : zbJ Tryz.prog 26 3 = some (3, 23) := by kernel_rfl
theorem yF26_4 : zbJ Tryz.prog 26 4 = some (4, 24) := by kernel_rfl
theorem yF134_2 : zbJ Tryz.prog 134 2 = some (2, 67) := by kernel_rfl
theorem yA67 : zc7 Tryz.prog 67 = some false := by kernel_rfl
theorem yU67 : Tryz.prog.underlying 67 = some (.slice 103) := by kernel_rfl
theorem yE67 : elOf Tryz.prog 67 = some (103, 10) := by kernel_rfl
theorem yA103 : zc7 Tryz.prog 103 = some true := by kernel_rfl
theorem yS103 : szOf Tryz.prog 103 = some 10 := by kernel_rfl
theorem yF103_0 : zbJ Tryz.prog 103 0 = some (0, 26) := by kernel_rfl
theorem yF103_1 : zbJ Tryz.prog 103 1 = some (5, 26) := by kernel_rfl
theorem yZ60 : zdd Tryz.prog 60 = some [.nl, .nl, .t (.sc (.int .i64 0)), .t (.sc (.int .i64 0)), .t (.sc (.int .i64 0))] := by kernel_rfl
theorem yP33 : apOf Tryz.prog 33 = some (83, 48, 3) := by kernel_rfl
theorem yR83 : zrow Tryz.prog 83 = some [(.sc (.str ⟨#[]⟩)), .sl [], (.sc (.int .i64 0))] := by kernel_rfl
theorem yZ83 : zdd Tryz.prog 83 = some [.t (.sc (.str ⟨#[]⟩)), .nl, .t (.sc (.int .i64 0))] := by kernel_rfl
theorem yF83_0 : zbJ Tryz.prog 83 0 = some (0, 9) := by kernel_rfl
theorem yS9 : szOf Tryz.prog 9 = some 1 := by kernel_rfl
theorem yP23 : apOf Tryz.prog 23 = some (3, 8, 1) := by kernel_rfl
theorem yR3 : zrow Tryz.prog 3 = some [(.sc (.int .i64 0))] := by kernel_rfl
theorem yE23 : elOf Tryz.prog 23 = some (3, 1) := by kernel_rfl
theorem yA3 : zc7 Tryz.prog 3 = some false := by kernel_rfl
theorem yS3 : szOf Tryz.prog 3 = some 1 := by kernel_rfl
theorem yF83_1 : zbJ Tryz.prog 83 1 = some (1, 23) := by kernel_rfl
theorem yS23 : szOf Tryz.prog 23 = some 1 := by kernel_rfl
theorem yF77_2 : zbJ Tryz.prog 77 2 = some (2, 3) := by kernel_rfl
theorem zg7 : zbJ Tryz.prog 83 2 = some (2, 3) := by kernel_rfl
theorem yA83 : zc7 Tryz.prog 83 = some true := by kernel_rfl
theorem yS83 : szOf Tryz.prog 83 = some 3 := by kernel_rfl
theorem yE33 : elOf Tryz.prog 33 = some (83, 3) := by kernel_rfl
theorem yF60_0 : zbJ Tryz.prog 60 0 = some (0, 33) := by kernel_rfl
theorem yS33 : szOf Tryz.prog 33 = some 1 := by kernel_rfl
theorem yP58 : apOf Tryz.prog 58 = some (55, 56, 3) := by kernel_rfl
theorem yR55 : zrow Tryz.prog 55 = some [(.sc (.int .i64 0)), .sl [], .sl []] := by kernel_rfl
theorem yZ55 : zdd Tryz.prog 55 = some [.t (.sc (.int .i64 0)), .nl, .nl] := by kernel_rfl
theorem yF134_0 : zbJ Tryz.prog 134 0 = some (0, 3) := by kernel_rfl
theorem zgJ : zbJ Tryz.prog 55 0 = some (0, 3) := by kernel_rfl
theorem yP35 : apOf Tryz.prog 35 = some (37, 80, 5) := by kernel_rfl
theorem yR37 : zrow Tryz.prog 37 = some [(.sc (.int .i64 0)), (.sc (.str ⟨#[]⟩)), (.sc (.int .i64 0)), .sl [], .sl []] := by kernel_rfl
theorem yZ37 : zdd Tryz.prog 37 = some [.t (.sc (.int .i64 0)), .t (.sc (.str ⟨#[]⟩)), .t (.sc (.int .i64 0)), .nl, .nl] := by kernel_rfl
theorem yF26_0 : zbJ Tryz.prog 26 0 = some (0, 3) := by kernel_rfl
theorem zc8 : zbJ Tryz.prog 37 0 = some (0, 3) := by kernel_rfl
theorem zcH : zbJ Tryz.prog 37 1 = some (1, 9) := by kernel_rfl
theorem yF26_2 : zbJ Tryz.prog 26 2 = some (2, 3) := by kernel_rfl
theorem zep : zbJ Tryz.prog 37 2 = some (2, 3) := by kernel_rfl
theorem zeu : zbJ Tryz.prog 37 3 = some (3, 23) := by kernel_rfl
theorem zZ : zbJ Tryz.prog 37 4 = some (4, 35) := by kernel_rfl
theorem yS35 : szOf Tryz.prog 35 = some 1 := by kernel_rfl
theorem yA37 : zc7 Tryz.prog 37 = some true := by kernel_rfl
theorem yS37 : szOf Tryz.prog 37 = some 5 := by kernel_rfl
theorem yE35 : elOf Tryz.prog 35 = some (37, 5) := by kernel_rfl
theorem zfy : zbJ Tryz.prog 55 1 = some (1, 35) := by kernel_rfl
theorem yP53 : apOf Tryz.prog 53 = some (96, 160, 10) := by kernel_rfl
theorem yR96 : zrow Tryz.prog 96 = some [(.sc (.int .i64 0)), (.sc (.str ⟨#[]⟩)), (.sc (.int .i64 0)), .sl [], .sl [], (.sc (.int .i64 0)), (.sc (.str ⟨#[]⟩)), (.sc (.int .i64 0)), .sl [], .sl []] := by kernel_rfl
theorem yZ96 : zdd Tryz.prog 96 = some [.t (.sc (.int .i64 0)), .t (.sc (.str ⟨#[]⟩)), .t (.sc (.int .i64 0)), .nl, .nl, .t (.sc (.int .i64 0)), .t (.sc (.str ⟨#[]⟩)), .t (.sc (.int .i64 0)), .nl, .nl] := by kernel_rfl
theorem zd3 : zbJ Tryz.prog 96 0 = some (0, 37) := by kernel_rfl
theorem zfr : zbJ Tryz.prog 96 1 = some (5, 37) := by kernel_rfl
theorem yA96 : zc7 Tryz.prog 96 = some true := by kernel_rfl
theorem yS96 : szOf Tryz.prog 96 = some 10 := by kernel_rfl
theorem yE53 : elOf Tryz.prog 53 = some (96, 10) := by kernel_rfl
theorem zfx : zbJ Tryz.prog 55 2 = some (2, 53) := by kernel_rfl
theorem yS53 : szOf Tryz.prog 53 = some 1 := by kernel_rfl
theorem yA55 : zc7 Tryz.prog 55 = some true := by kernel_rfl
theorem yS55 : szOf Tryz.prog 55 = some 3 := by kernel_rfl
theorem yE58 : elOf Tryz.prog 58 = some (55, 3) := by kernel_rfl
theorem zd4 : zbJ Tryz.prog 60 1 = some (1, 58) := by kernel_rfl
theorem yS58 : szOf Tryz.prog 58 = some 1 := by kernel_rfl
theorem yF51_2 : zbJ Tryz.prog 51 2 = some (2, 3) := by kernel_rfl
theorem yF60_2 : zbJ Tryz.prog 60 2 = some (2, 3) := by kernel_rfl
theorem yF51_3 : zbJ Tryz.prog 51 3 = some (3, 3) := by kernel_rfl
theorem yF60_3 : zbJ Tryz.prog 60 3 = some (3, 3) := by kernel_rfl
theorem yF51_4 : zbJ Tryz.prog 51 4 = some (4, 3) := by kernel_rfl
theorem yF60_4 : zbJ Tryz.prog 60 4 = some (4, 3) := by kernel_rfl
theorem yA60 : zc7 Tryz.prog 60 = some true := by kernel_rfl
theorem yS60 : szOf Tryz.prog 60 = some 5 := by kernel_rfl
theorem yA58 : zc7 Tryz.prog 58 = some false := by kernel_rfl
theorem yU58 : Tryz.prog.underlying 58 = some (.slice 55) := by kernel_rfl
theorem yA33 : zc7 Tryz.prog 33 = some false := by kernel_rfl
theorem yU33 : Tryz.prog.underlying 33 = some (.slice 83) := by kernel_rfl
theorem yMix : Tryz.prog.follows .mixedOrders = true := by kernel_rfl
theorem yA53 : zc7 Tryz.prog 53 = some false := by kernel_rfl
theorem yA35 : zc7 Tryz.prog 35 = some false := by kernel_rfl
theorem yU53 : Tryz.prog.underlying 53 = some (.slice 96) := by kernel_rfl
theorem yU35 : Tryz.prog.underlying 35 = some (.slice 37) := by kernel_rfl
theorem yP30 : apOf Tryz.prog 30 = some (88, 192, 12) := by kernel_rfl
theorem yR88 : zrow Tryz.prog 88 = some [(.sc (.int .i64 0)), (.sc (.str ⟨#[]⟩)), (.sc (.int .i64 0)), .sl [], .sl [], (.sc (.int .i64 0)), (.sc (.int .i64 0)), (.sc (.str ⟨#[]⟩)), (.sc (.int .i64 0)), .sl [], .sl [], .sl []] := by kernel_rfl
theorem yZ88 : zdd Tryz.prog 88 = some [.t (.sc (.int .i64 0)), .t (.sc (.str ⟨#[]⟩)), .t (.sc (.int .i64 0)), .nl, .nl, .t (.sc (.int .i64 0)), .t (.sc (.int .i64 0)), .t (.sc (.str ⟨#[]⟩)), .t (.sc (.int .i64 0)), .nl, .nl, .nl] := by kernel_rfl
theorem yL88 : zgp Tryz.prog 88 = some [(0, 5), (5, 1), (6, 5), (11, 1)] := by kernel_rfl
theorem yS88 : szOf Tryz.prog 88 = some 12 := by kernel_rfl
theorem yF88_1 : zbJ Tryz.prog 88 1 = some (5, 3) := by kernel_rfl
theorem yF88_2 : zbJ Tryz.prog 88 2 = some (6, 37) := by kernel_rfl
theorem yA88 : zc7 Tryz.prog 88 = some true := by kernel_rfl
theorem yU30 : Tryz.prog.underlying 30 = some (.slice 88) := by kernel_rfl
theorem yE30 : elOf Tryz.prog 30 = some (88, 12) := by kernel_rfl
theorem yF88_0 : zbJ Tryz.prog 88 0 = some (0, 37) := by kernel_rfl
theorem yL55 : zgp Tryz.prog 55 = some [(0, 1), (1, 1), (2, 1)] := by kernel_rfl
theorem yL37 : zgp Tryz.prog 37 = some [(0, 1), (1, 1), (2, 1), (3, 1), (4, 1)] := by kernel_rfl
theorem yI37 : ∃ x, Tryz.prog.info? 37 = some x := Option.isSome_iff_exists.mp (by kernel_rfl : (Tryz.prog.info? 37).isSome = true)
theorem yL96 : zgp Tryz.prog 96 = some [(0, 5), (5, 5)] := by kernel_rfl
theorem yI96 : ∃ x, Tryz.prog.info? 96 = some x := Option.isSome_iff_exists.mp (by kernel_rfl : (Tryz.prog.info? 96).isSome = true)
theorem yN83 : ([.sc (.str (⟨#[]⟩ : ByteArray)), .sc (.nis 3), .sc (.int .i64 0)] : List T).all (T.nisB Tryz.prog) = true := by kernel_rfl
theorem yN55 : ([.sc (.int .i64 0), .sc (.nis 37), .sc (.nis 96)] : List T).all (T.nisB Tryz.prog) = true := by kernel_rfl
theorem yN37 : ([.sc (.int .i64 0), .sc (.str (⟨#[]⟩ : ByteArray)), .sc (.int .i64 0), .sc (.nis 3), .sc (.nis 37)] : List T).all (T.nisB Tryz.prog) = true := by kernel_rfl
theorem yN96 : ([.sc (.int .i64 0), .sc (.str (⟨#[]⟩ : ByteArray)), .sc (.int .i64 0), .sc (.nis 3), .sc (.nis 37), .sc (.int .i64 0), .sc (.str (⟨#[]⟩ : ByteArray)), .sc (.int .i64 0), .sc (.nis 3), .sc (.nis 37)] : List T).all (T.nisB Tryz.prog) = true := by kernel_rfl
theorem yZ3 : zdd Tryz.prog 3 = some [.t (.sc (.int .i64 0))] := by kernel_rfl
theorem yZ35 : zdd Tryz.prog 35 = some [.nl] := by kernel_rfl
theorem yZ23 : zdd Tryz.prog 23 = some [.nl] := by kernel_rfl
theorem yZ4 : zdd Tryz.prog 4 = some [.t (.sc (.bool false))] := by kernel_rfl
theorem yS4 : szOf Tryz.prog 4 = some 1 := by kernel_rfl
theorem yA4 : zc7 Tryz.prog 4 = some false := by kernel_rfl
theorem yI3 : ∃ x, Tryz.prog.info? 3 = some x := Option.isSome_iff_exists.mp (by kernel_rfl : (Tryz.prog.info? 3).isSome = true)
theorem yU4 : Tryz.prog.underlying 4 = some .bool := by kernel_rfl
theorem yU3 : Tryz.prog.underlying 3 = some (.int .i64) := by kernel_rfl
theorem yU5 : Tryz.prog.underlying 5 = some (.int .u8) := by kernel_rfl
theorem yP131 : apOf Tryz.prog 131 = some (5, 1, 1) := by kernel_rfl
theorem yR5 : zrow Tryz.prog 5 = some [(.sc (.int .u8 0))] := by kernel_rfl
theorem yU131 : Tryz.prog.underlying 131 = some (.slice 5) := by kernel_rfl
theorem yE131 : elOf Tryz.prog 131 = some (5, 1) := by kernel_rfl
end Go.Abs
