/- A part of the proof: what the functions that the law calls answer, as pure values. -/
import Derived.Test.YtilpcjgklfjdgaaGreatK4ff6a9e918d6
import Derived.Test.YtilpcjgklfjdgaaGreatProg
set_option linter.unusedSimpArgs false
set_option linter.unusedVariables false
set_option maxRecDepth 100000
set_option maxHeartbeats 4000000
namespace Go.Abs
open Go.Proofs
theorem yU22:Tryz.prog.underlying 22=some (.slice 5):=by kernel_rfl
theorem yZ32:zeu Tryz.prog 32=some [.t (.sc (.int .i64 0)),.t (.sc (.str ⟨#[]⟩)),.t (.sc (.int .i64 0)),.nl,.nl]:=by kernel_rfl
theorem yE22:elOf Tryz.prog 22=some (5,1):=by kernel_rfl
theorem yZ90:zeu Tryz.prog 90=some [.nl,.t (.sc (.int .i64 0))]:=by kernel_rfl
theorem yL90:zhi Tryz.prog 90=some [(0,1),(1,1)]:=by kernel_rfl
theorem yP51:apOf Tryz.prog 51=some (9,16,1):=by kernel_rfl
theorem yR9:zrow Tryz.prog 9=some [(.sc (.str ⟨#[]⟩))]:=by kernel_rfl
theorem yP83:apOf Tryz.prog 83=some (51,24,1):=by kernel_rfl
theorem yR51:zrow Tryz.prog 51=some [.sl []]:=by kernel_rfl
theorem yU83:Tryz.prog.underlying 83=some (.slice 51):=by kernel_rfl
theorem yF90_1:zhT Tryz.prog 90 1=some (1,3):=by kernel_rfl
theorem yA3:zgo Tryz.prog 3=some false:=by kernel_rfl
theorem yS3:szOf Tryz.prog 3=some 1:=by kernel_rfl
theorem yF90_0:zhT Tryz.prog 90 0=some (0,22):=by kernel_rfl
theorem yA22:zgo Tryz.prog 22=some false:=by kernel_rfl
theorem yA5:zgo Tryz.prog 5=some false:=by kernel_rfl
theorem yU5:Tryz.prog.underlying 5=some (.int .u8):=by kernel_rfl
theorem yU3:Tryz.prog.underlying 3=some (.int .i64):=by kernel_rfl
theorem yMix:Tryz.prog.follows .mixedOrders=true:=by kernel_rfl
theorem yE83:elOf Tryz.prog 83=some (51,1):=by kernel_rfl
theorem yA51:zgo Tryz.prog 51=some false:=by kernel_rfl
theorem yE51:elOf Tryz.prog 51=some (9,1):=by kernel_rfl
theorem yA9:zgo Tryz.prog 9=some false:=by kernel_rfl
theorem yU9:Tryz.prog.underlying 9=some .string:=by kernel_rfl
theorem yL32:zhi Tryz.prog 32=some [(0,1),(1,1),(2,1),(3,1),(4,1)]:=by kernel_rfl
theorem yS32:szOf Tryz.prog 32=some 5:=by kernel_rfl
theorem yA32:zgo Tryz.prog 32=some true:=by kernel_rfl
theorem yP27:apOf Tryz.prog 27=some (3,8,1):=by kernel_rfl
theorem yR3:zrow Tryz.prog 3=some [(.sc (.int .i64 0))]:=by kernel_rfl
theorem yU51:Tryz.prog.underlying 51=some (.slice 9):=by kernel_rfl
theorem zF:zhT Tryz.prog 32 4=some (4,24):=by kernel_rfl
theorem yA24:zgo Tryz.prog 24=some false:=by kernel_rfl
theorem yU24:Tryz.prog.underlying 24=some (.slice 32):=by kernel_rfl
theorem yP24:apOf Tryz.prog 24=some (32,80,5):=by kernel_rfl
theorem yR32:zrow Tryz.prog 32=some [(.sc (.int .i64 0)),(.sc (.str ⟨#[]⟩)),(.sc (.int .i64 0)),.sl [],.sl []]:=by kernel_rfl
theorem yS24:szOf Tryz.prog 24=some 1:=by kernel_rfl
theorem yI32:∃ x,Tryz.prog.info? 32=some x:=Option.isSome_iff_exists.mp (by kernel_rfl:(Tryz.prog.info? 32).isSome=true)
theorem zcY:zhT Tryz.prog 32 0=some (0,3):=by kernel_rfl
theorem zcm:zhT Tryz.prog 32 1=some (1,9):=by kernel_rfl
theorem zhq:zhT Tryz.prog 32 2=some (2,3):=by kernel_rfl
theorem zf3:zhT Tryz.prog 32 3=some (3,27):=by kernel_rfl
theorem yA27:zgo Tryz.prog 27=some false:=by kernel_rfl
theorem yU27:Tryz.prog.underlying 27=some (.slice 3):=by kernel_rfl
theorem yE27:elOf Tryz.prog 27=some (3,1):=by kernel_rfl
theorem yE24:elOf Tryz.prog 24=some (32,5):=by kernel_rfl
theorem yS9:szOf Tryz.prog 9=some 1:=by kernel_rfl
theorem yS27:szOf Tryz.prog 27=some 1:=by kernel_rfl
theorem yP23:apOf Tryz.prog 23=some (37,160,10):=by kernel_rfl
theorem yR37:zrow Tryz.prog 37=some [(.sc (.int .i64 0)),(.sc (.str ⟨#[]⟩)),(.sc (.int .i64 0)),.sl [],.sl [],(.sc (.int .i64 0)),(.sc (.str ⟨#[]⟩)),(.sc (.int .i64 0)),.sl [],.sl []]:=by kernel_rfl
theorem yZ37:zeu Tryz.prog 37=some [.t (.sc (.int .i64 0)),.t (.sc (.str ⟨#[]⟩)),.t (.sc (.int .i64 0)),.nl,.nl,.t (.sc (.int .i64 0)),.t (.sc (.str ⟨#[]⟩)),.t (.sc (.int .i64 0)),.nl,.nl]:=by kernel_rfl
theorem yL37:zhi Tryz.prog 37=some [(0,5),(5,5)]:=by kernel_rfl
theorem yU23:Tryz.prog.underlying 23=some (.slice 37):=by kernel_rfl
theorem yE23:elOf Tryz.prog 23=some (37,10):=by kernel_rfl
theorem yA37:zgo Tryz.prog 37=some true:=by kernel_rfl
theorem yS37:szOf Tryz.prog 37=some 10:=by kernel_rfl
theorem zic:zhT Tryz.prog 37 0=some (0,32):=by kernel_rfl
theorem yF37_1:zhT Tryz.prog 37 1=some (5,32):=by kernel_rfl
theorem yP42:apOf Tryz.prog 42=some (48,192,12):=by kernel_rfl
theorem yR48:zrow Tryz.prog 48=some [(.sc (.int .i64 0)),(.sc (.str ⟨#[]⟩)),(.sc (.int .i64 0)),.sl [],.sl [],(.sc (.int .i64 0)),(.sc (.int .i64 0)),(.sc (.str ⟨#[]⟩)),(.sc (.int .i64 0)),.sl [],.sl [],.sl []]:=by kernel_rfl
theorem yZ48:zeu Tryz.prog 48=some [.t (.sc (.int .i64 0)),.t (.sc (.str ⟨#[]⟩)),.t (.sc (.int .i64 0)),.nl,.nl,.t (.sc (.int .i64 0)),.t (.sc (.int .i64 0)),.t (.sc (.str ⟨#[]⟩)),.t (.sc (.int .i64 0)),.nl,.nl,.nl]:=by kernel_rfl
theorem yL48:zhi Tryz.prog 48=some [(0,5),(5,1),(6,5),(11,1)]:=by kernel_rfl
theorem yS48:szOf Tryz.prog 48=some 12:=by kernel_rfl
theorem zhU:zhT Tryz.prog 48 1=some (5,3):=by kernel_rfl
theorem yF48_2:zhT Tryz.prog 48 2=some (6,32):=by kernel_rfl
theorem yA48:zgo Tryz.prog 48=some true:=by kernel_rfl
theorem yU42:Tryz.prog.underlying 42=some (.slice 48):=by kernel_rfl
theorem yE42:elOf Tryz.prog 42=some (48,12):=by kernel_rfl
theorem zix:zhT Tryz.prog 48 0=some (0,32):=by kernel_rfl
theorem yP129:apOf Tryz.prog 129=some (27,24,1):=by kernel_rfl
theorem yR27:zrow Tryz.prog 27=some [.sl []]:=by kernel_rfl
theorem yU129:Tryz.prog.underlying 129=some (.slice 27):=by kernel_rfl
theorem yE129:elOf Tryz.prog 129=some (27,1):=by kernel_rfl
theorem yP30:apOf Tryz.prog 30=some (117,48,3):=by kernel_rfl
theorem yR117:zrow Tryz.prog 117=some [(.sc (.str ⟨#[]⟩)),.sl [],(.sc (.int .i64 0))]:=by kernel_rfl
theorem yU30:Tryz.prog.underlying 30=some (.slice 117):=by kernel_rfl
theorem yE30:elOf Tryz.prog 30=some (117,3):=by kernel_rfl
theorem yF117_0:zhT Tryz.prog 117 0=some (0,9):=by kernel_rfl
theorem zhB:zhT Tryz.prog 117 1=some (1,27):=by kernel_rfl
theorem yF117_2:zhT Tryz.prog 117 2=some (2,3):=by kernel_rfl
theorem yP142:apOf Tryz.prog 142=some (42,24,1):=by kernel_rfl
theorem yR42:zrow Tryz.prog 42=some [.sl []]:=by kernel_rfl
theorem yU142:Tryz.prog.underlying 142=some (.slice 42):=by kernel_rfl
theorem ziw:zhT Tryz.prog 48 3=some (11,42):=by kernel_rfl
theorem yA42:zgo Tryz.prog 42=some false:=by kernel_rfl
theorem yE142:elOf Tryz.prog 142=some (42,1):=by kernel_rfl
theorem yS42:szOf Tryz.prog 42=some 1:=by kernel_rfl
theorem yI48:∃ x,Tryz.prog.info? 48=some x:=Option.isSome_iff_exists.mp (by kernel_rfl:(Tryz.prog.info? 48).isSome=true)
theorem yZ3:zeu Tryz.prog 3=some [.t (.sc (.int .i64 0))]:=by kernel_rfl
theorem yZ4:zeu Tryz.prog 4=some [.t (.sc (.bool false))]:=by kernel_rfl
theorem yS4:szOf Tryz.prog 4=some 1:=by kernel_rfl
theorem yA4:zgo Tryz.prog 4=some false:=by kernel_rfl
theorem yU4:Tryz.prog.underlying 4=some .bool:=by kernel_rfl
theorem yZ51:zeu Tryz.prog 51=some [.nl]:=by kernel_rfl
theorem yS51:szOf Tryz.prog 51=some 1:=by kernel_rfl
theorem yA117:zgo Tryz.prog 117=some true:=by kernel_rfl
theorem yS117:szOf Tryz.prog 117=some 3:=by kernel_rfl
theorem yZ117:zeu Tryz.prog 117=some [.t (.sc (.str ⟨#[]⟩)),.nl,.t (.sc (.int .i64 0))]:=by kernel_rfl
theorem yZ24:zeu Tryz.prog 24=some [.nl]:=by kernel_rfl
theorem yZ27:zeu Tryz.prog 27=some [.nl]:=by kernel_rfl
theorem yA30:zgo Tryz.prog 30=some false:=by kernel_rfl
theorem yZ42:zeu Tryz.prog 42=some [.nl]:=by kernel_rfl
end Go.Abs
