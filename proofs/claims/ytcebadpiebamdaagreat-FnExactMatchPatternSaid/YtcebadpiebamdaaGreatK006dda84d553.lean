/- A part of the proof: what the functions that the law calls answer, as pure values. -/
import Derived.Test.YtcebadpiebamdaaGreatK075984cc7243
import Derived.Test.YtcebadpiebamdaaGreatProg
set_option linter.unusedSimpArgs false
set_option linter.unusedVariables false
set_option maxRecDepth 100000
set_option maxHeartbeats 4000000
namespace Go.Abs
open Go.Proofs
theorem yU22:Tryz.prog.underlying 22=some (.slice 77):=by kernel_rfl
theorem yE22:elOf Tryz.prog 22=some (77,3):=by kernel_rfl
theorem yA77:zee Tryz.prog 77=some true:=by kernel_rfl
theorem yS77:szOf Tryz.prog 77=some 3:=by kernel_rfl
theorem yF77_0:zcZ Tryz.prog 77 0=some (0,9):=by kernel_rfl
theorem yA9:zee Tryz.prog 9=some false:=by kernel_rfl
theorem yU9:Tryz.prog.underlying 9=some .string:=by kernel_rfl
theorem yF77_1:zcZ Tryz.prog 77 1=some (1,23):=by kernel_rfl
theorem yA23:zee Tryz.prog 23=some false:=by kernel_rfl
theorem yU23:Tryz.prog.underlying 23=some (.slice 3):=by kernel_rfl
theorem yA26:zee Tryz.prog 26=some true:=by kernel_rfl
theorem yS26:szOf Tryz.prog 26=some 5:=by kernel_rfl
theorem yF26_1:zcZ Tryz.prog 26 1=some (1,9):=by kernel_rfl
theorem yF26_3:zcZ Tryz.prog 26 3=some (3,23):=by kernel_rfl
theorem yF26_4:zcZ Tryz.prog 26 4=some (4,24):=by kernel_rfl
theorem yA24:zee Tryz.prog 24=some false:=by kernel_rfl
theorem yU24:Tryz.prog.underlying 24=some (.slice 26):=by kernel_rfl
theorem yE24:elOf Tryz.prog 24=some (26,5):=by kernel_rfl
theorem yMix:Tryz.prog.follows .mixedOrders=true:=by kernel_rfl
theorem yP33:apOf Tryz.prog 33=some (83,48,3):=by kernel_rfl
theorem yR83:zrow Tryz.prog 83=some [(.sc (.str ⟨#[]⟩)),.sl [],(.sc (.int .i64 0))]:=by kernel_rfl
theorem yZ83:zdA Tryz.prog 83=some [.t (.sc (.str ⟨#[]⟩)),.nl,.t (.sc (.int .i64 0))]:=by kernel_rfl
theorem zgX:zcZ Tryz.prog 83 0=some (0,9):=by kernel_rfl
theorem yS9:szOf Tryz.prog 9=some 1:=by kernel_rfl
theorem yP23:apOf Tryz.prog 23=some (3,8,1):=by kernel_rfl
theorem yR3:zrow Tryz.prog 3=some [(.sc (.int .i64 0))]:=by kernel_rfl
theorem yE23:elOf Tryz.prog 23=some (3,1):=by kernel_rfl
theorem yA3:zee Tryz.prog 3=some false:=by kernel_rfl
theorem yS3:szOf Tryz.prog 3=some 1:=by kernel_rfl
theorem zfY:zcZ Tryz.prog 83 1=some (1,23):=by kernel_rfl
theorem yS23:szOf Tryz.prog 23=some 1:=by kernel_rfl
theorem yF77_2:zcZ Tryz.prog 77 2=some (2,3):=by kernel_rfl
theorem yF83_2:zcZ Tryz.prog 83 2=some (2,3):=by kernel_rfl
theorem yA83:zee Tryz.prog 83=some true:=by kernel_rfl
theorem yS83:szOf Tryz.prog 83=some 3:=by kernel_rfl
theorem yE33:elOf Tryz.prog 33=some (83,3):=by kernel_rfl
theorem yZ37:zdA Tryz.prog 37=some [.t (.sc (.int .i64 0)),.t (.sc (.str ⟨#[]⟩)),.t (.sc (.int .i64 0)),.nl,.nl]:=by kernel_rfl
theorem yF26_0:zcZ Tryz.prog 26 0=some (0,3):=by kernel_rfl
theorem zcD:zcZ Tryz.prog 37 0=some (0,3):=by kernel_rfl
theorem zbC:zcZ Tryz.prog 37 1=some (1,9):=by kernel_rfl
theorem yF26_2:zcZ Tryz.prog 26 2=some (2,3):=by kernel_rfl
theorem zeg:zcZ Tryz.prog 37 2=some (2,3):=by kernel_rfl
theorem zdR:zcZ Tryz.prog 37 3=some (3,23):=by kernel_rfl
theorem yP35:apOf Tryz.prog 35=some (37,80,5):=by kernel_rfl
theorem yR37:zrow Tryz.prog 37=some [(.sc (.int .i64 0)),(.sc (.str ⟨#[]⟩)),(.sc (.int .i64 0)),.sl [],.sl []]:=by kernel_rfl
theorem yE35:elOf Tryz.prog 35=some (37,5):=by kernel_rfl
theorem yS37:szOf Tryz.prog 37=some 5:=by kernel_rfl
theorem zJ:zcZ Tryz.prog 37 4=some (4,35):=by kernel_rfl
theorem yS35:szOf Tryz.prog 35=some 1:=by kernel_rfl
theorem yA37:zee Tryz.prog 37=some true:=by kernel_rfl
theorem yU33:Tryz.prog.underlying 33=some (.slice 83):=by kernel_rfl
theorem yP30:apOf Tryz.prog 30=some (88,192,12):=by kernel_rfl
theorem yR88:zrow Tryz.prog 88=some [(.sc (.int .i64 0)),(.sc (.str ⟨#[]⟩)),(.sc (.int .i64 0)),.sl [],.sl [],(.sc (.int .i64 0)),(.sc (.int .i64 0)),(.sc (.str ⟨#[]⟩)),(.sc (.int .i64 0)),.sl [],.sl [],.sl []]:=by kernel_rfl
theorem yA35:zee Tryz.prog 35=some false:=by kernel_rfl
theorem yU35:Tryz.prog.underlying 35=some (.slice 37):=by kernel_rfl
theorem yZ88:zdA Tryz.prog 88=some [.t (.sc (.int .i64 0)),.t (.sc (.str ⟨#[]⟩)),.t (.sc (.int .i64 0)),.nl,.nl,.t (.sc (.int .i64 0)),.t (.sc (.int .i64 0)),.t (.sc (.str ⟨#[]⟩)),.t (.sc (.int .i64 0)),.nl,.nl,.nl]:=by kernel_rfl
theorem yL88:zgF Tryz.prog 88=some [(0,5),(5,1),(6,5),(11,1)]:=by kernel_rfl
theorem yP148:apOf Tryz.prog 148=some (30,24,1):=by kernel_rfl
theorem yR30:zrow Tryz.prog 30=some [.sl []]:=by kernel_rfl
theorem yS88:szOf Tryz.prog 88=some 12:=by kernel_rfl
theorem yU148:Tryz.prog.underlying 148=some (.slice 30):=by kernel_rfl
theorem yA88:zee Tryz.prog 88=some true:=by kernel_rfl
theorem zgD:zcZ Tryz.prog 88 3=some (11,30):=by kernel_rfl
theorem yA30:zee Tryz.prog 30=some false:=by kernel_rfl
theorem yE148:elOf Tryz.prog 148=some (30,1):=by kernel_rfl
theorem yE30:elOf Tryz.prog 30=some (88,12):=by kernel_rfl
theorem yS30:szOf Tryz.prog 30=some 1:=by kernel_rfl
theorem yI88:∃ x,Tryz.prog.info? 88=some x:=Option.isSome_iff_exists.mp (by kernel_rfl:(Tryz.prog.info? 88).isSome=true)
theorem yU30:Tryz.prog.underlying 30=some (.slice 88):=by kernel_rfl
theorem zgW:zcZ Tryz.prog 88 0=some (0,37):=by kernel_rfl
theorem yL37:zgF Tryz.prog 37=some [(0,1),(1,1),(2,1),(3,1),(4,1)]:=by kernel_rfl
theorem yI37:∃ x,Tryz.prog.info? 37=some x:=Option.isSome_iff_exists.mp (by kernel_rfl:(Tryz.prog.info? 37).isSome=true)
theorem yF88_1:zcZ Tryz.prog 88 1=some (5,3):=by kernel_rfl
theorem zgV:zcZ Tryz.prog 88 2=some (6,37):=by kernel_rfl
theorem yN83:([.sc (.str (⟨#[]⟩:ByteArray)),.sc (.nis 3),.sc (.int .i64 0)]:List T).all (T.nisB Tryz.prog)=true:=by kernel_rfl
theorem yN37:([.sc (.int .i64 0),.sc (.str (⟨#[]⟩:ByteArray)),.sc (.int .i64 0),.sc (.nis 3),.sc (.nis 37)]:List T).all (T.nisB Tryz.prog)=true:=by kernel_rfl
theorem yZ3:zdA Tryz.prog 3=some [.t (.sc (.int .i64 0))]:=by kernel_rfl
theorem yZ35:zdA Tryz.prog 35=some [.nl]:=by kernel_rfl
theorem yZ23:zdA Tryz.prog 23=some [.nl]:=by kernel_rfl
theorem yA33:zee Tryz.prog 33=some false:=by kernel_rfl
theorem yI3:∃ x,Tryz.prog.info? 3=some x:=Option.isSome_iff_exists.mp (by kernel_rfl:(Tryz.prog.info? 3).isSome=true)
theorem yZ30:zdA Tryz.prog 30=some [.nl]:=by kernel_rfl
theorem yU4:Tryz.prog.underlying 4=some .bool:=by kernel_rfl
theorem yU3:Tryz.prog.underlying 3=some (.int .i64):=by kernel_rfl
theorem yU5:Tryz.prog.underlying 5=some (.int .u8):=by kernel_rfl
theorem yP131:apOf Tryz.prog 131=some (5,1,1):=by kernel_rfl
theorem yR5:zrow Tryz.prog 5=some [(.sc (.int .u8 0))]:=by kernel_rfl
theorem yU131:Tryz.prog.underlying 131=some (.slice 5):=by kernel_rfl
theorem yE131:elOf Tryz.prog 131=some (5,1):=by kernel_rfl
end Go.Abs
