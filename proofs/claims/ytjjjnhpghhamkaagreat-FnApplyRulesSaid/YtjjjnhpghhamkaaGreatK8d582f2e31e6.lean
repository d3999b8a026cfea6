/- A part of the proof: what the functions that the law calls answer, as pure values. -/
import Derived.Test.YtjjjnhpghhamkaaGreatKa18b558014bb
import Derived.Test.YtjjjnhpghhamkaaGreatProg
set_option linter.unusedSimpArgs false
set_option linter.unusedVariables false
set_option maxRecDepth 100000
set_option maxHeartbeats 4000000
namespace Go.Abs
open Go.Proofs
theorem yU22:Tryz.prog.underlying 22=some (.slice 5):=by kernel_rfl
theorem yZ27:zev Tryz.prog 27=some [.t (.sc (.int .i64 0)),.t (.sc (.str ⟨#[]⟩)),.t (.sc (.int .i64 0)),.nl,.nl]:=by kernel_rfl
theorem yE22:elOf Tryz.prog 22=some (5,1):=by kernel_rfl
theorem yZ145:zev Tryz.prog 145=some [.nl,.t (.sc (.int .i64 0))]:=by kernel_rfl
theorem yL145:zgT Tryz.prog 145=some [(0,1),(1,1)]:=by kernel_rfl
theorem yP36:apOf Tryz.prog 36=some (9,16,1):=by kernel_rfl
theorem yR9:zrow Tryz.prog 9=some [(.sc (.str ⟨#[]⟩))]:=by kernel_rfl
theorem yP140:apOf Tryz.prog 140=some (36,24,1):=by kernel_rfl
theorem yR36:zrow Tryz.prog 36=some [.sl []]:=by kernel_rfl
theorem yU140:Tryz.prog.underlying 140=some (.slice 36):=by kernel_rfl
theorem yF145_1:zf7 Tryz.prog 145 1=some (1,3):=by kernel_rfl
theorem yA3:zfF Tryz.prog 3=some false:=by kernel_rfl
theorem yS3:szOf Tryz.prog 3=some 1:=by kernel_rfl
theorem yF145_0:zf7 Tryz.prog 145 0=some (0,22):=by kernel_rfl
theorem yA22:zfF Tryz.prog 22=some false:=by kernel_rfl
theorem yA5:zfF Tryz.prog 5=some false:=by kernel_rfl
theorem yU5:Tryz.prog.underlying 5=some (.int .u8):=by kernel_rfl
theorem yU3:Tryz.prog.underlying 3=some (.int .i64):=by kernel_rfl
theorem yMix:Tryz.prog.follows .mixedOrders=true:=by kernel_rfl
theorem yE140:elOf Tryz.prog 140=some (36,1):=by kernel_rfl
theorem yA36:zfF Tryz.prog 36=some false:=by kernel_rfl
theorem yE36:elOf Tryz.prog 36=some (9,1):=by kernel_rfl
theorem yA9:zfF Tryz.prog 9=some false:=by kernel_rfl
theorem yU9:Tryz.prog.underlying 9=some .string:=by kernel_rfl
theorem yL27:zgT Tryz.prog 27=some [(0,1),(1,1),(2,1),(3,1),(4,1)]:=by kernel_rfl
theorem yS27:szOf Tryz.prog 27=some 5:=by kernel_rfl
theorem yA27:zfF Tryz.prog 27=some true:=by kernel_rfl
theorem yP24:apOf Tryz.prog 24=some (3,8,1):=by kernel_rfl
theorem yR3:zrow Tryz.prog 3=some [(.sc (.int .i64 0))]:=by kernel_rfl
theorem yU36:Tryz.prog.underlying 36=some (.slice 9):=by kernel_rfl
theorem zF:zf7 Tryz.prog 27 4=some (4,25):=by kernel_rfl
theorem yA25:zfF Tryz.prog 25=some false:=by kernel_rfl
theorem yU25:Tryz.prog.underlying 25=some (.slice 27):=by kernel_rfl
theorem yP25:apOf Tryz.prog 25=some (27,80,5):=by kernel_rfl
theorem yR27:zrow Tryz.prog 27=some [(.sc (.int .i64 0)),(.sc (.str ⟨#[]⟩)),(.sc (.int .i64 0)),.sl [],.sl []]:=by kernel_rfl
theorem yS25:szOf Tryz.prog 25=some 1:=by kernel_rfl
theorem yI27:∃ x,Tryz.prog.info? 27=some x:=Option.isSome_iff_exists.mp (by kernel_rfl:(Tryz.prog.info? 27).isSome=true)
theorem zc1:zf7 Tryz.prog 27 0=some (0,3):=by kernel_rfl
theorem zcp:zf7 Tryz.prog 27 1=some (1,9):=by kernel_rfl
theorem zhu:zf7 Tryz.prog 27 2=some (2,3):=by kernel_rfl
theorem zf9:zf7 Tryz.prog 27 3=some (3,24):=by kernel_rfl
theorem yA24:zfF Tryz.prog 24=some false:=by kernel_rfl
theorem yU24:Tryz.prog.underlying 24=some (.slice 3):=by kernel_rfl
theorem yE24:elOf Tryz.prog 24=some (3,1):=by kernel_rfl
theorem yE25:elOf Tryz.prog 25=some (27,5):=by kernel_rfl
theorem yS9:szOf Tryz.prog 9=some 1:=by kernel_rfl
theorem yS24:szOf Tryz.prog 24=some 1:=by kernel_rfl
theorem yP177:apOf Tryz.prog 177=some (24,24,1):=by kernel_rfl
theorem yR24:zrow Tryz.prog 24=some [.sl []]:=by kernel_rfl
theorem yU177:Tryz.prog.underlying 177=some (.slice 24):=by kernel_rfl
theorem yE177:elOf Tryz.prog 177=some (24,1):=by kernel_rfl
theorem yP23:apOf Tryz.prog 23=some (93,48,3):=by kernel_rfl
theorem yR93:zrow Tryz.prog 93=some [(.sc (.str ⟨#[]⟩)),.sl [],(.sc (.int .i64 0))]:=by kernel_rfl
theorem yZ93:zev Tryz.prog 93=some [.t (.sc (.str ⟨#[]⟩)),.nl,.t (.sc (.int .i64 0))]:=by kernel_rfl
theorem yL93:zgT Tryz.prog 93=some [(0,1),(1,1),(2,1)]:=by kernel_rfl
theorem yU23:Tryz.prog.underlying 23=some (.slice 93):=by kernel_rfl
theorem yE23:elOf Tryz.prog 23=some (93,3):=by kernel_rfl
theorem yA93:zfF Tryz.prog 93=some true:=by kernel_rfl
theorem yS93:szOf Tryz.prog 93=some 3:=by kernel_rfl
theorem yF93_0:zf7 Tryz.prog 93 0=some (0,9):=by kernel_rfl
theorem yF93_1:zf7 Tryz.prog 93 1=some (1,24):=by kernel_rfl
theorem yF93_2:zf7 Tryz.prog 93 2=some (2,3):=by kernel_rfl
theorem yZ3:zev Tryz.prog 3=some [.t (.sc (.int .i64 0))]:=by kernel_rfl
theorem yZ25:zev Tryz.prog 25=some [.nl]:=by kernel_rfl
theorem yZ24:zev Tryz.prog 24=some [.nl]:=by kernel_rfl
theorem yA23:zfF Tryz.prog 23=some false:=by kernel_rfl
theorem yZ40:zev Tryz.prog 40=some [.t (.sc (.int .i64 0)),.t (.sc (.str ⟨#[]⟩)),.t (.sc (.int .i64 0)),.nl,.nl,.t (.sc (.int .i64 0)),.t (.sc (.int .i64 0)),.t (.sc (.str ⟨#[]⟩)),.t (.sc (.int .i64 0)),.nl,.nl,.nl]:=by kernel_rfl
theorem yL40:zgT Tryz.prog 40=some [(0,5),(5,1),(6,5),(11,1)]:=by kernel_rfl
theorem yP30:apOf Tryz.prog 30=some (40,192,12):=by kernel_rfl
theorem yR40:zrow Tryz.prog 40=some [(.sc (.int .i64 0)),(.sc (.str ⟨#[]⟩)),(.sc (.int .i64 0)),.sl [],.sl [],(.sc (.int .i64 0)),(.sc (.int .i64 0)),(.sc (.str ⟨#[]⟩)),(.sc (.int .i64 0)),.sl [],.sl [],.sl []]:=by kernel_rfl
theorem yZ30:zev Tryz.prog 30=some [.nl]:=by kernel_rfl
theorem yS30:szOf Tryz.prog 30=some 1:=by kernel_rfl
theorem yA30:zfF Tryz.prog 30=some false:=by kernel_rfl
theorem yS40:szOf Tryz.prog 40=some 12:=by kernel_rfl
theorem yU30:Tryz.prog.underlying 30=some (.slice 40):=by kernel_rfl
theorem yE30:elOf Tryz.prog 30=some (40,12):=by kernel_rfl
theorem ziE:zf7 Tryz.prog 40 3=some (11,30):=by kernel_rfl
theorem yA40:zfF Tryz.prog 40=some true:=by kernel_rfl
theorem yP182:apOf Tryz.prog 182=some (30,24,1):=by kernel_rfl
theorem yR30:zrow Tryz.prog 30=some [.sl []]:=by kernel_rfl
theorem yU182:Tryz.prog.underlying 182=some (.slice 30):=by kernel_rfl
theorem yE182:elOf Tryz.prog 182=some (30,1):=by kernel_rfl
theorem yI40:∃ x,Tryz.prog.info? 40=some x:=Option.isSome_iff_exists.mp (by kernel_rfl:(Tryz.prog.info? 40).isSome=true)
theorem ziF:zf7 Tryz.prog 40 0=some (0,27):=by kernel_rfl
theorem zhY:zf7 Tryz.prog 40 1=some (5,3):=by kernel_rfl
theorem yF40_2:zf7 Tryz.prog 40 2=some (6,27):=by kernel_rfl
theorem yU4:Tryz.prog.underlying 4=some .bool:=by kernel_rfl
theorem yZ36:zev Tryz.prog 36=some [.nl]:=by kernel_rfl
theorem yS36:szOf Tryz.prog 36=some 1:=by kernel_rfl
theorem yU50:Tryz.prog.underlying 50=some (.slice 119):=by kernel_rfl
theorem yE50:elOf Tryz.prog 50=some (119,3):=by kernel_rfl
theorem yA119:zfF Tryz.prog 119=some true:=by kernel_rfl
theorem yS119:szOf Tryz.prog 119=some 3:=by kernel_rfl
theorem yF119_0:zf7 Tryz.prog 119 0=some (0,9):=by kernel_rfl
theorem yF119_1:zf7 Tryz.prog 119 1=some (1,24):=by kernel_rfl
theorem yU51:Tryz.prog.underlying 51=some (.slice 122):=by kernel_rfl
theorem yE51:elOf Tryz.prog 51=some (122,10):=by kernel_rfl
theorem yA122:zfF Tryz.prog 122=some true:=by kernel_rfl
theorem yS122:szOf Tryz.prog 122=some 10:=by kernel_rfl
theorem yF122_0:zf7 Tryz.prog 122 0=some (0,54):=by kernel_rfl
theorem yA54:zfF Tryz.prog 54=some true:=by kernel_rfl
theorem yS54:szOf Tryz.prog 54=some 5:=by kernel_rfl
theorem yF54_1:zf7 Tryz.prog 54 1=some (1,9):=by kernel_rfl
theorem yF54_3:zf7 Tryz.prog 54 3=some (3,24):=by kernel_rfl
theorem yF54_4:zf7 Tryz.prog 54 4=some (4,52):=by kernel_rfl
theorem yA52:zfF Tryz.prog 52=some false:=by kernel_rfl
theorem yU52:Tryz.prog.underlying 52=some (.slice 54):=by kernel_rfl
theorem yE52:elOf Tryz.prog 52=some (54,5):=by kernel_rfl
theorem yF122_1:zf7 Tryz.prog 122 1=some (5,54):=by kernel_rfl
theorem yF119_2:zf7 Tryz.prog 119 2=some (2,3):=by kernel_rfl
theorem yP62:apOf Tryz.prog 62=some (73,160,10):=by kernel_rfl
theorem yR73:zrow Tryz.prog 73=some [(.sc (.int .i64 0)),(.sc (.str ⟨#[]⟩)),(.sc (.int .i64 0)),.sl [],.sl [],(.sc (.int .i64 0)),(.sc (.str ⟨#[]⟩)),(.sc (.int .i64 0)),.sl [],.sl []]:=by kernel_rfl
theorem yZ73:zev Tryz.prog 73=some [.t (.sc (.int .i64 0)),.t (.sc (.str ⟨#[]⟩)),.t (.sc (.int .i64 0)),.nl,.nl,.t (.sc (.int .i64 0)),.t (.sc (.str ⟨#[]⟩)),.t (.sc (.int .i64 0)),.nl,.nl]:=by kernel_rfl
theorem yF54_0:zf7 Tryz.prog 54 0=some (0,3):=by kernel_rfl
theorem yF54_2:zf7 Tryz.prog 54 2=some (2,3):=by kernel_rfl
theorem zhX:zf7 Tryz.prog 73 0=some (0,27):=by kernel_rfl
theorem yF73_1:zf7 Tryz.prog 73 1=some (5,27):=by kernel_rfl
theorem yA73:zfF Tryz.prog 73=some true:=by kernel_rfl
theorem yS73:szOf Tryz.prog 73=some 10:=by kernel_rfl
theorem yE62:elOf Tryz.prog 62=some (73,10):=by kernel_rfl
theorem yU62:Tryz.prog.underlying 62=some (.slice 73):=by kernel_rfl
theorem yZ4:zev Tryz.prog 4=some [.t (.sc (.bool false))]:=by kernel_rfl
theorem yS4:szOf Tryz.prog 4=some 1:=by kernel_rfl
theorem yA4:zfF Tryz.prog 4=some false:=by kernel_rfl
theorem yL73:zgT Tryz.prog 73=some [(0,5),(5,5)]:=by kernel_rfl
end Go.Abs
