/- A part of the proof: what the functions that the law calls answer, as pure values. -/
import Derived.Test.YtpdacpnncmemgaaGreatKe05290cf3b33
import Derived.Test.YtpdacpnncmemgaaGreatProg
set_option linter.unusedSimpArgs false
set_option linter.unusedVariables false
set_option maxRecDepth 100000
set_option maxHeartbeats 4000000
namespace Go.Abs
open Go.Proofs
theorem yU22:Tryz.prog.underlying 22=some (.slice 5):=by kernel_rfl
theorem yZ32:zdU Tryz.prog 32=some [.t (.sc (.int .i64 0)),.t (.sc (.str ⟨#[]⟩)),.t (.sc (.int .i64 0)),.nl,.nl]:=by kernel_rfl
theorem yE22:elOf Tryz.prog 22=some (5,1):=by kernel_rfl
theorem yZ94:zdU Tryz.prog 94=some [.nl,.t (.sc (.int .i64 0))]:=by kernel_rfl
theorem yL94:zgC Tryz.prog 94=some [(0,1),(1,1)]:=by kernel_rfl
theorem yP89:apOf Tryz.prog 89=some (9,16,1):=by kernel_rfl
theorem yR9:zrow Tryz.prog 9=some [(.sc (.str ⟨#[]⟩))]:=by kernel_rfl
theorem yP86:apOf Tryz.prog 86=some (89,24,1):=by kernel_rfl
theorem yR89:zrow Tryz.prog 89=some [.sl []]:=by kernel_rfl
theorem yU86:Tryz.prog.underlying 86=some (.slice 89):=by kernel_rfl
theorem yF94_1:zg7 Tryz.prog 94 1=some (1,3):=by kernel_rfl
theorem yA3:zfM Tryz.prog 3=some false:=by kernel_rfl
theorem yS3:szOf Tryz.prog 3=some 1:=by kernel_rfl
theorem yF94_0:zg7 Tryz.prog 94 0=some (0,22):=by kernel_rfl
theorem yA22:zfM Tryz.prog 22=some false:=by kernel_rfl
theorem yA5:zfM Tryz.prog 5=some false:=by kernel_rfl
theorem yU5:Tryz.prog.underlying 5=some (.int .u8):=by kernel_rfl
theorem yU3:Tryz.prog.underlying 3=some (.int .i64):=by kernel_rfl
theorem yMix:Tryz.prog.follows .mixedOrders=true:=by kernel_rfl
theorem yE86:elOf Tryz.prog 86=some (89,1):=by kernel_rfl
theorem yA89:zfM Tryz.prog 89=some false:=by kernel_rfl
theorem yE89:elOf Tryz.prog 89=some (9,1):=by kernel_rfl
theorem yA9:zfM Tryz.prog 9=some false:=by kernel_rfl
theorem yU9:Tryz.prog.underlying 9=some .string:=by kernel_rfl
theorem yL32:zgC Tryz.prog 32=some [(0,1),(1,1),(2,1),(3,1),(4,1)]:=by kernel_rfl
theorem yS32:szOf Tryz.prog 32=some 5:=by kernel_rfl
theorem yA32:zfM Tryz.prog 32=some true:=by kernel_rfl
theorem yP27:apOf Tryz.prog 27=some (3,8,1):=by kernel_rfl
theorem yR3:zrow Tryz.prog 3=some [(.sc (.int .i64 0))]:=by kernel_rfl
theorem yU89:Tryz.prog.underlying 89=some (.slice 9):=by kernel_rfl
theorem zD:zg7 Tryz.prog 32 4=some (4,24):=by kernel_rfl
theorem yA24:zfM Tryz.prog 24=some false:=by kernel_rfl
theorem yU24:Tryz.prog.underlying 24=some (.slice 32):=by kernel_rfl
theorem yP24:apOf Tryz.prog 24=some (32,80,5):=by kernel_rfl
theorem yR32:zrow Tryz.prog 32=some [(.sc (.int .i64 0)),(.sc (.str ⟨#[]⟩)),(.sc (.int .i64 0)),.sl [],.sl []]:=by kernel_rfl
theorem yS24:szOf Tryz.prog 24=some 1:=by kernel_rfl
theorem yI32:∃ x,Tryz.prog.info? 32=some x:=Option.isSome_iff_exists.mp (by kernel_rfl:(Tryz.prog.info? 32).isSome=true)
theorem zcN:zg7 Tryz.prog 32 0=some (0,3):=by kernel_rfl
theorem zcB:zg7 Tryz.prog 32 1=some (1,9):=by kernel_rfl
theorem zgV:zg7 Tryz.prog 32 2=some (2,3):=by kernel_rfl
theorem zgu:zg7 Tryz.prog 32 3=some (3,27):=by kernel_rfl
theorem yA27:zfM Tryz.prog 27=some false:=by kernel_rfl
theorem yU27:Tryz.prog.underlying 27=some (.slice 3):=by kernel_rfl
theorem yE27:elOf Tryz.prog 27=some (3,1):=by kernel_rfl
theorem yE24:elOf Tryz.prog 24=some (32,5):=by kernel_rfl
theorem yS9:szOf Tryz.prog 9=some 1:=by kernel_rfl
theorem yS27:szOf Tryz.prog 27=some 1:=by kernel_rfl
theorem yP23:apOf Tryz.prog 23=some (37,160,10):=by kernel_rfl
theorem yR37:zrow Tryz.prog 37=some [(.sc (.int .i64 0)),(.sc (.str ⟨#[]⟩)),(.sc (.int .i64 0)),.sl [],.sl [],(.sc (.int .i64 0)),(.sc (.str ⟨#[]⟩)),(.sc (.int .i64 0)),.sl [],.sl []]:=by kernel_rfl
theorem yZ37:zdU Tryz.prog 37=some [.t (.sc (.int .i64 0)),.t (.sc (.str ⟨#[]⟩)),.t (.sc (.int .i64 0)),.nl,.nl,.t (.sc (.int .i64 0)),.t (.sc (.str ⟨#[]⟩)),.t (.sc (.int .i64 0)),.nl,.nl]:=by kernel_rfl
theorem yL37:zgC Tryz.prog 37=some [(0,5),(5,5)]:=by kernel_rfl
theorem yU23:Tryz.prog.underlying 23=some (.slice 37):=by kernel_rfl
theorem yE23:elOf Tryz.prog 23=some (37,10):=by kernel_rfl
theorem yA37:zfM Tryz.prog 37=some true:=by kernel_rfl
theorem yS37:szOf Tryz.prog 37=some 10:=by kernel_rfl
theorem zhp:zg7 Tryz.prog 37 0=some (0,32):=by kernel_rfl
theorem yF37_1:zg7 Tryz.prog 37 1=some (5,32):=by kernel_rfl
theorem yP42:apOf Tryz.prog 42=some (55,192,12):=by kernel_rfl
theorem yR55:zrow Tryz.prog 55=some [(.sc (.int .i64 0)),(.sc (.str ⟨#[]⟩)),(.sc (.int .i64 0)),.sl [],.sl [],(.sc (.int .i64 0)),(.sc (.int .i64 0)),(.sc (.str ⟨#[]⟩)),(.sc (.int .i64 0)),.sl [],.sl [],.sl []]:=by kernel_rfl
theorem yZ55:zdU Tryz.prog 55=some [.t (.sc (.int .i64 0)),.t (.sc (.str ⟨#[]⟩)),.t (.sc (.int .i64 0)),.nl,.nl,.t (.sc (.int .i64 0)),.t (.sc (.int .i64 0)),.t (.sc (.str ⟨#[]⟩)),.t (.sc (.int .i64 0)),.nl,.nl,.nl]:=by kernel_rfl
theorem yL55:zgC Tryz.prog 55=some [(0,5),(5,1),(6,5),(11,1)]:=by kernel_rfl
theorem yS55:szOf Tryz.prog 55=some 12:=by kernel_rfl
theorem yF55_1:zg7 Tryz.prog 55 1=some (5,3):=by kernel_rfl
theorem yF55_2:zg7 Tryz.prog 55 2=some (6,32):=by kernel_rfl
theorem yA55:zfM Tryz.prog 55=some true:=by kernel_rfl
theorem yU42:Tryz.prog.underlying 42=some (.slice 55):=by kernel_rfl
theorem yE42:elOf Tryz.prog 42=some (55,12):=by kernel_rfl
theorem yF55_0:zg7 Tryz.prog 55 0=some (0,32):=by kernel_rfl
theorem yP135:apOf Tryz.prog 135=some (27,24,1):=by kernel_rfl
theorem yR27:zrow Tryz.prog 27=some [.sl []]:=by kernel_rfl
theorem yU135:Tryz.prog.underlying 135=some (.slice 27):=by kernel_rfl
theorem yE135:elOf Tryz.prog 135=some (27,1):=by kernel_rfl
theorem yZ3:zdU Tryz.prog 3=some [.t (.sc (.int .i64 0))]:=by kernel_rfl
theorem yZ24:zdU Tryz.prog 24=some [.nl]:=by kernel_rfl
theorem yZ27:zdU Tryz.prog 27=some [.nl]:=by kernel_rfl
theorem yZ4:zdU Tryz.prog 4=some [.t (.sc (.bool false))]:=by kernel_rfl
theorem yS4:szOf Tryz.prog 4=some 1:=by kernel_rfl
theorem yA4:zfM Tryz.prog 4=some false:=by kernel_rfl
theorem yU4:Tryz.prog.underlying 4=some .bool:=by kernel_rfl
theorem yP30:apOf Tryz.prog 30=some (78,48,3):=by kernel_rfl
theorem yR78:zrow Tryz.prog 78=some [(.sc (.str ⟨#[]⟩)),.sl [],(.sc (.int .i64 0))]:=by kernel_rfl
theorem yU30:Tryz.prog.underlying 30=some (.slice 78):=by kernel_rfl
theorem yE30:elOf Tryz.prog 30=some (78,3):=by kernel_rfl
theorem yA78:zfM Tryz.prog 78=some true:=by kernel_rfl
theorem yS78:szOf Tryz.prog 78=some 3:=by kernel_rfl
theorem yZ78:zdU Tryz.prog 78=some [.t (.sc (.str ⟨#[]⟩)),.nl,.t (.sc (.int .i64 0))]:=by kernel_rfl
theorem yF78_0:zg7 Tryz.prog 78 0=some (0,9):=by kernel_rfl
theorem yF78_1:zg7 Tryz.prog 78 1=some (1,27):=by kernel_rfl
theorem yF78_2:zg7 Tryz.prog 78 2=some (2,3):=by kernel_rfl
theorem yA30:zfM Tryz.prog 30=some false:=by kernel_rfl
theorem yZ42:zdU Tryz.prog 42=some [.nl]:=by kernel_rfl
theorem yS42:szOf Tryz.prog 42=some 1:=by kernel_rfl
theorem yA42:zfM Tryz.prog 42=some false:=by kernel_rfl
theorem yF55_3:zg7 Tryz.prog 55 3=some (11,42):=by kernel_rfl
theorem yI55:∃ x,Tryz.prog.info? 55=some x:=Option.isSome_iff_exists.mp (by kernel_rfl:(Tryz.prog.info? 55).isSome=true)
end Go.Abs
