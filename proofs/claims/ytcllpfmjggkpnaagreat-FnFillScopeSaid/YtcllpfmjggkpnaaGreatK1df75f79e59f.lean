/- A part of the proof: what the functions that the law calls answer, as pure values. -/
import Derived.Test.YtcllpfmjggkpnaaGreatK901cfc26645b
import Derived.Test.YtcllpfmjggkpnaaGreatProg
set_option linter.unusedSimpArgs false
set_option linter.unusedVariables false
set_option maxRecDepth 100000
set_option maxHeartbeats 4000000
namespace Go.Abs
open Go.Proofs
theorem yU22:Tryz.prog.underlying 22=some (.slice 5):=by kernel_rfl
theorem yZ27:zd5 Tryz.prog 27=some [.t (.sc (.int .i64 0)),.t (.sc (.str ⟨#[]⟩)),.t (.sc (.int .i64 0)),.nl,.nl]:=by kernel_rfl
theorem yE22:elOf Tryz.prog 22=some (5,1):=by kernel_rfl
theorem yZ73:zd5 Tryz.prog 73=some [.nl,.t (.sc (.int .i64 0))]:=by kernel_rfl
theorem yL73:zgp Tryz.prog 73=some [(0,1),(1,1)]:=by kernel_rfl
theorem yP70:apOf Tryz.prog 70=some (9,16,1):=by kernel_rfl
theorem yR9:zrow Tryz.prog 9=some [(.sc (.str ⟨#[]⟩))]:=by kernel_rfl
theorem yP67:apOf Tryz.prog 67=some (70,24,1):=by kernel_rfl
theorem yR70:zrow Tryz.prog 70=some [.sl []]:=by kernel_rfl
theorem yU67:Tryz.prog.underlying 67=some (.slice 70):=by kernel_rfl
theorem yF73_1:zgY Tryz.prog 73 1=some (1,3):=by kernel_rfl
theorem yA3:zfO Tryz.prog 3=some false:=by kernel_rfl
theorem yS3:szOf Tryz.prog 3=some 1:=by kernel_rfl
theorem yF73_0:zgY Tryz.prog 73 0=some (0,22):=by kernel_rfl
theorem yA22:zfO Tryz.prog 22=some false:=by kernel_rfl
theorem yA5:zfO Tryz.prog 5=some false:=by kernel_rfl
theorem yU5:Tryz.prog.underlying 5=some (.int .u8):=by kernel_rfl
theorem yU3:Tryz.prog.underlying 3=some (.int .i64):=by kernel_rfl
theorem yMix:Tryz.prog.follows .mixedOrders=true:=by kernel_rfl
theorem yE67:elOf Tryz.prog 67=some (70,1):=by kernel_rfl
theorem yA70:zfO Tryz.prog 70=some false:=by kernel_rfl
theorem yE70:elOf Tryz.prog 70=some (9,1):=by kernel_rfl
theorem yA9:zfO Tryz.prog 9=some false:=by kernel_rfl
theorem yU9:Tryz.prog.underlying 9=some .string:=by kernel_rfl
theorem yL27:zgp Tryz.prog 27=some [(0,1),(1,1),(2,1),(3,1),(4,1)]:=by kernel_rfl
theorem yS27:szOf Tryz.prog 27=some 5:=by kernel_rfl
theorem yA27:zfO Tryz.prog 27=some true:=by kernel_rfl
theorem yP24:apOf Tryz.prog 24=some (3,8,1):=by kernel_rfl
theorem yR3:zrow Tryz.prog 3=some [(.sc (.int .i64 0))]:=by kernel_rfl
theorem yU70:Tryz.prog.underlying 70=some (.slice 9):=by kernel_rfl
theorem zH:zgY Tryz.prog 27 4=some (4,25):=by kernel_rfl
theorem yA25:zfO Tryz.prog 25=some false:=by kernel_rfl
theorem yU25:Tryz.prog.underlying 25=some (.slice 27):=by kernel_rfl
theorem yP25:apOf Tryz.prog 25=some (27,80,5):=by kernel_rfl
theorem yR27:zrow Tryz.prog 27=some [(.sc (.int .i64 0)),(.sc (.str ⟨#[]⟩)),(.sc (.int .i64 0)),.sl [],.sl []]:=by kernel_rfl
theorem yS25:szOf Tryz.prog 25=some 1:=by kernel_rfl
theorem yI27:∃ x,Tryz.prog.info? 27=some x:=Option.isSome_iff_exists.mp (by kernel_rfl:(Tryz.prog.info? 27).isSome=true)
theorem zcT:zgY Tryz.prog 27 0=some (0,3):=by kernel_rfl
theorem zdp:zgY Tryz.prog 27 1=some (1,9):=by kernel_rfl
theorem zgd:zgY Tryz.prog 27 2=some (2,3):=by kernel_rfl
theorem zeR:zgY Tryz.prog 27 3=some (3,24):=by kernel_rfl
theorem yA24:zfO Tryz.prog 24=some false:=by kernel_rfl
theorem yU24:Tryz.prog.underlying 24=some (.slice 3):=by kernel_rfl
theorem yE24:elOf Tryz.prog 24=some (3,1):=by kernel_rfl
theorem yE25:elOf Tryz.prog 25=some (27,5):=by kernel_rfl
theorem yS9:szOf Tryz.prog 9=some 1:=by kernel_rfl
theorem yS24:szOf Tryz.prog 24=some 1:=by kernel_rfl
theorem yP119:apOf Tryz.prog 119=some (24,24,1):=by kernel_rfl
theorem yR24:zrow Tryz.prog 24=some [.sl []]:=by kernel_rfl
theorem yU119:Tryz.prog.underlying 119=some (.slice 24):=by kernel_rfl
theorem yE119:elOf Tryz.prog 119=some (24,1):=by kernel_rfl
theorem yP23:apOf Tryz.prog 23=some (50,48,3):=by kernel_rfl
theorem yR50:zrow Tryz.prog 50=some [(.sc (.str ⟨#[]⟩)),.sl [],(.sc (.int .i64 0))]:=by kernel_rfl
theorem yZ50:zd5 Tryz.prog 50=some [.t (.sc (.str ⟨#[]⟩)),.nl,.t (.sc (.int .i64 0))]:=by kernel_rfl
theorem yL50:zgp Tryz.prog 50=some [(0,1),(1,1),(2,1)]:=by kernel_rfl
theorem yU23:Tryz.prog.underlying 23=some (.slice 50):=by kernel_rfl
theorem yE23:elOf Tryz.prog 23=some (50,3):=by kernel_rfl
theorem yA50:zfO Tryz.prog 50=some true:=by kernel_rfl
theorem yS50:szOf Tryz.prog 50=some 3:=by kernel_rfl
theorem yF50_0:zgY Tryz.prog 50 0=some (0,9):=by kernel_rfl
theorem yF50_1:zgY Tryz.prog 50 1=some (1,24):=by kernel_rfl
theorem yF50_2:zgY Tryz.prog 50 2=some (2,3):=by kernel_rfl
theorem yZ3:zd5 Tryz.prog 3=some [.t (.sc (.int .i64 0))]:=by kernel_rfl
theorem yZ25:zd5 Tryz.prog 25=some [.nl]:=by kernel_rfl
theorem yZ24:zd5 Tryz.prog 24=some [.nl]:=by kernel_rfl
theorem yA23:zfO Tryz.prog 23=some false:=by kernel_rfl
theorem yI3:∃ x,Tryz.prog.info? 3=some x:=Option.isSome_iff_exists.mp (by kernel_rfl:(Tryz.prog.info? 3).isSome=true)
theorem yZ38:zd5 Tryz.prog 38=some [.t (.sc (.int .i64 0)),.t (.sc (.str ⟨#[]⟩)),.t (.sc (.int .i64 0)),.nl,.nl,.t (.sc (.int .i64 0)),.t (.sc (.int .i64 0)),.t (.sc (.str ⟨#[]⟩)),.t (.sc (.int .i64 0)),.nl,.nl,.nl]:=by kernel_rfl
theorem yL38:zgp Tryz.prog 38=some [(0,5),(5,1),(6,5),(11,1)]:=by kernel_rfl
theorem yP30:apOf Tryz.prog 30=some (38,192,12):=by kernel_rfl
theorem yR38:zrow Tryz.prog 38=some [(.sc (.int .i64 0)),(.sc (.str ⟨#[]⟩)),(.sc (.int .i64 0)),.sl [],.sl [],(.sc (.int .i64 0)),(.sc (.int .i64 0)),(.sc (.str ⟨#[]⟩)),(.sc (.int .i64 0)),.sl [],.sl [],.sl []]:=by kernel_rfl
theorem yZ30:zd5 Tryz.prog 30=some [.nl]:=by kernel_rfl
theorem yS30:szOf Tryz.prog 30=some 1:=by kernel_rfl
theorem yA30:zfO Tryz.prog 30=some false:=by kernel_rfl
theorem yS38:szOf Tryz.prog 38=some 12:=by kernel_rfl
theorem yU30:Tryz.prog.underlying 30=some (.slice 38):=by kernel_rfl
theorem yE30:elOf Tryz.prog 30=some (38,12):=by kernel_rfl
theorem zfP:zgY Tryz.prog 38 3=some (11,30):=by kernel_rfl
theorem yA38:zfO Tryz.prog 38=some true:=by kernel_rfl
theorem yP130:apOf Tryz.prog 130=some (30,24,1):=by kernel_rfl
theorem yR30:zrow Tryz.prog 30=some [.sl []]:=by kernel_rfl
theorem yU130:Tryz.prog.underlying 130=some (.slice 30):=by kernel_rfl
theorem yE130:elOf Tryz.prog 130=some (30,1):=by kernel_rfl
theorem yI38:∃ x,Tryz.prog.info? 38=some x:=Option.isSome_iff_exists.mp (by kernel_rfl:(Tryz.prog.info? 38).isSome=true)
theorem zfi:zgY Tryz.prog 38 0=some (0,27):=by kernel_rfl
theorem zgc:zgY Tryz.prog 38 1=some (5,3):=by kernel_rfl
theorem yF38_2:zgY Tryz.prog 38 2=some (6,27):=by kernel_rfl
theorem yU4:Tryz.prog.underlying 4=some .bool:=by kernel_rfl
theorem yP100:apOf Tryz.prog 100=some (106,160,10):=by kernel_rfl
theorem yR106:zrow Tryz.prog 106=some [(.sc (.int .i64 0)),(.sc (.str ⟨#[]⟩)),(.sc (.int .i64 0)),.sl [],.sl [],(.sc (.int .i64 0)),(.sc (.str ⟨#[]⟩)),(.sc (.int .i64 0)),.sl [],.sl []]:=by kernel_rfl
theorem yZ106:zd5 Tryz.prog 106=some [.t (.sc (.int .i64 0)),.t (.sc (.str ⟨#[]⟩)),.t (.sc (.int .i64 0)),.nl,.nl,.t (.sc (.int .i64 0)),.t (.sc (.str ⟨#[]⟩)),.t (.sc (.int .i64 0)),.nl,.nl]:=by kernel_rfl
theorem yL106:zgp Tryz.prog 106=some [(0,5),(5,5)]:=by kernel_rfl
theorem yU100:Tryz.prog.underlying 100=some (.slice 106):=by kernel_rfl
theorem yE100:elOf Tryz.prog 100=some (106,10):=by kernel_rfl
theorem yA106:zfO Tryz.prog 106=some true:=by kernel_rfl
theorem yS106:szOf Tryz.prog 106=some 10:=by kernel_rfl
theorem yF106_0:zgY Tryz.prog 106 0=some (0,27):=by kernel_rfl
theorem yF106_1:zgY Tryz.prog 106 1=some (5,27):=by kernel_rfl
theorem yZ4:zd5 Tryz.prog 4=some [.t (.sc (.bool false))]:=by kernel_rfl
theorem yS4:szOf Tryz.prog 4=some 1:=by kernel_rfl
theorem yA4:zfO Tryz.prog 4=some false:=by kernel_rfl
end Go.Abs
