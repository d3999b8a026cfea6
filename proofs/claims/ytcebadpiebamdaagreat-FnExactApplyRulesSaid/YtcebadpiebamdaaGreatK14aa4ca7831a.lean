/- A part of the proof: what the functions that the law calls answer, as pure values. -/
import Derived.Test.YtcebadpiebamdaaGreatK403ef3ea41a7
import Derived.Test.YtcebadpiebamdaaGreatProg
set_option linter.unusedSimpArgs false
set_option linter.unusedVariables false
set_option maxRecDepth 100000
set_option maxHeartbeats 4000000
namespace Go.Abs
open Go.Proofs
theorem yU22:Tryz.prog.underlying 22=some (.slice 77):=by kernel_rfl
theorem yE22:zcw Tryz.prog 22=some (77,3):=by kernel_rfl
theorem yA77:n9 Tryz.prog 77=some true:=by kernel_rfl
theorem yS77:kG Tryz.prog 77=some 3:=by kernel_rfl
theorem zoD:jJ Tryz.prog 77 0=some (0,9):=by kernel_rfl
theorem yA9:n9 Tryz.prog 9=some false:=by kernel_rfl
theorem yU9:Tryz.prog.underlying 9=some .string:=by kernel_rfl
theorem zoC:jJ Tryz.prog 77 1=some (1,23):=by kernel_rfl
theorem zlF:n9 Tryz.prog 23=some false:=by kernel_rfl
theorem zdB:Tryz.prog.underlying 23=some (.slice 3):=by kernel_rfl
theorem yU67:Tryz.prog.underlying 67=some (.slice 103):=by kernel_rfl
theorem yE67:zcw Tryz.prog 67=some (103,10):=by kernel_rfl
theorem zr1:n9 Tryz.prog 103=some true:=by kernel_rfl
theorem yS103:kG Tryz.prog 103=some 10:=by kernel_rfl
theorem zlQ:jJ Tryz.prog 103 0=some (0,26):=by kernel_rfl
theorem yA26:n9 Tryz.prog 26=some true:=by kernel_rfl
theorem yS26:kG Tryz.prog 26=some 5:=by kernel_rfl
theorem zoG:jJ Tryz.prog 26 1=some (1,9):=by kernel_rfl
theorem zoF:jJ Tryz.prog 26 3=some (3,23):=by kernel_rfl
theorem zoE:jJ Tryz.prog 26 4=some (4,24):=by kernel_rfl
theorem yA24:n9 Tryz.prog 24=some false:=by kernel_rfl
theorem yU24:Tryz.prog.underlying 24=some (.slice 26):=by kernel_rfl
theorem yE24:zcw Tryz.prog 24=some (26,5):=by kernel_rfl
theorem zlP:jJ Tryz.prog 103 1=some (5,26):=by kernel_rfl
theorem zmJ:Tryz.prog.follows .mixedOrders=true:=by kernel_rfl
theorem yP33:zb2 Tryz.prog 33=some (83,48,3):=by kernel_rfl
theorem yR83:zkk Tryz.prog 83=some [(.sc (.str ⟨#[]⟩)),.sl [],(.sc (.int .i64 0))]:=by kernel_rfl
theorem zrQ:mG Tryz.prog 83=some [.t (.sc (.str ⟨#[]⟩)),.nl,.t (.sc (.int .i64 0))]:=by kernel_rfl
theorem zmA:jJ Tryz.prog 83 0=some (0,9):=by kernel_rfl
theorem yS9:kG Tryz.prog 9=some 1:=by kernel_rfl
theorem zbv:zb2 Tryz.prog 23=some (3,8,1):=by kernel_rfl
theorem yR3:zkk Tryz.prog 3=some [(.sc (.int .i64 0))]:=by kernel_rfl
theorem zaB:zcw Tryz.prog 23=some (3,1):=by kernel_rfl
theorem yA3:n9 Tryz.prog 3=some false:=by kernel_rfl
theorem yS3:kG Tryz.prog 3=some 1:=by kernel_rfl
theorem zmz:jJ Tryz.prog 83 1=some (1,23):=by kernel_rfl
theorem zrR:kG Tryz.prog 23=some 1:=by kernel_rfl
theorem zry:jJ Tryz.prog 77 2=some (2,3):=by kernel_rfl
theorem zmy:jJ Tryz.prog 83 2=some (2,3):=by kernel_rfl
theorem zqg:n9 Tryz.prog 83=some true:=by kernel_rfl
theorem zis:kG Tryz.prog 83=some 3:=by kernel_rfl
theorem zdo:zcw Tryz.prog 33=some (83,3):=by kernel_rfl
theorem zsR:zb2 Tryz.prog 53=some (96,160,10):=by kernel_rfl
theorem yR96:zkk Tryz.prog 96=some [(.sc (.int .i64 0)),(.sc (.str ⟨#[]⟩)),(.sc (.int .i64 0)),.sl [],.sl [],(.sc (.int .i64 0)),(.sc (.str ⟨#[]⟩)),(.sc (.int .i64 0)),.sl [],.sl []]:=by kernel_rfl
theorem zro:mG Tryz.prog 96=some [.t (.sc (.int .i64 0)),.t (.sc (.str ⟨#[]⟩)),.t (.sc (.int .i64 0)),.nl,.nl,.t (.sc (.int .i64 0)),.t (.sc (.str ⟨#[]⟩)),.t (.sc (.int .i64 0)),.nl,.nl]:=by kernel_rfl
theorem zks:mG Tryz.prog 37=some [.t (.sc (.int .i64 0)),.t (.sc (.str ⟨#[]⟩)),.t (.sc (.int .i64 0)),.nl,.nl]:=by kernel_rfl
theorem zrA:jJ Tryz.prog 26 0=some (0,3):=by kernel_rfl
theorem zg4:jJ Tryz.prog 37 0=some (0,3):=by kernel_rfl
theorem zi0:jJ Tryz.prog 37 1=some (1,9):=by kernel_rfl
theorem zrz:jJ Tryz.prog 26 2=some (2,3):=by kernel_rfl
theorem ziZ:jJ Tryz.prog 37 2=some (2,3):=by kernel_rfl
theorem zg3:jJ Tryz.prog 37 3=some (3,23):=by kernel_rfl
theorem zgX:zb2 Tryz.prog 35=some (37,80,5):=by kernel_rfl
theorem zoq:zkk Tryz.prog 37=some [(.sc (.int .i64 0)),(.sc (.str ⟨#[]⟩)),(.sc (.int .i64 0)),.sl [],.sl []]:=by kernel_rfl
theorem i7:zcw Tryz.prog 35=some (37,5):=by kernel_rfl
theorem bN:kG Tryz.prog 37=some 5:=by kernel_rfl
theorem zkx:jJ Tryz.prog 37 4=some (4,35):=by kernel_rfl
theorem yS35:kG Tryz.prog 35=some 1:=by kernel_rfl
theorem b9:n9 Tryz.prog 37=some true:=by kernel_rfl
theorem wB:jJ Tryz.prog 96 0=some (0,37):=by kernel_rfl
theorem wV:jJ Tryz.prog 96 1=some (5,37):=by kernel_rfl
theorem znr:n9 Tryz.prog 96=some true:=by kernel_rfl
theorem zcE:kG Tryz.prog 96=some 10:=by kernel_rfl
theorem zeG:zcw Tryz.prog 53=some (96,10):=by kernel_rfl
theorem zop:Tryz.prog.underlying 53=some (.slice 96):=by kernel_rfl
theorem zns:n9 Tryz.prog 35=some false:=by kernel_rfl
theorem zcD:Tryz.prog.underlying 35=some (.slice 37):=by kernel_rfl
theorem znq:Tryz.prog.underlying 33=some (.slice 83):=by kernel_rfl
theorem zb1:zb2 Tryz.prog 30=some (88,192,12):=by kernel_rfl
theorem zlE:zkk Tryz.prog 88=some [(.sc (.int .i64 0)),(.sc (.str ⟨#[]⟩)),(.sc (.int .i64 0)),.sl [],.sl [],(.sc (.int .i64 0)),(.sc (.int .i64 0)),(.sc (.str ⟨#[]⟩)),(.sc (.int .i64 0)),.sl [],.sl [],.sl []]:=by kernel_rfl
theorem zqc:mG Tryz.prog 88=some [.t (.sc (.int .i64 0)),.t (.sc (.str ⟨#[]⟩)),.t (.sc (.int .i64 0)),.nl,.nl,.t (.sc (.int .i64 0)),.t (.sc (.int .i64 0)),.t (.sc (.str ⟨#[]⟩)),.t (.sc (.int .i64 0)),.nl,.nl,.nl]:=by kernel_rfl
theorem yL88:xZ Tryz.prog 88=some [(0,5),(5,1),(6,5),(11,1)]:=by kernel_rfl
theorem zer:kG Tryz.prog 88=some 12:=by kernel_rfl
theorem zrx:jJ Tryz.prog 88 1=some (5,3):=by kernel_rfl
theorem ziY:jJ Tryz.prog 88 2=some (6,37):=by kernel_rfl
theorem zmK:n9 Tryz.prog 88=some true:=by kernel_rfl
theorem zh6:Tryz.prog.underlying 30=some (.slice 88):=by kernel_rfl
theorem zdp:zcw Tryz.prog 30=some (88,12):=by kernel_rfl
theorem zmx:jJ Tryz.prog 88 0=some (0,37):=by kernel_rfl
theorem zr0:zb2 Tryz.prog 148=some (30,24,1):=by kernel_rfl
theorem yR30:zkk Tryz.prog 30=some [.sl []]:=by kernel_rfl
theorem yU148:Tryz.prog.underlying 148=some (.slice 30):=by kernel_rfl
theorem zmw:jJ Tryz.prog 88 3=some (11,30):=by kernel_rfl
theorem zrT:n9 Tryz.prog 30=some false:=by kernel_rfl
theorem yE148:zcw Tryz.prog 148=some (30,1):=by kernel_rfl
theorem zsQ:kG Tryz.prog 30=some 1:=by kernel_rfl
theorem yI88:∃ x,Tryz.prog.info? 88=some x:=Option.isSome_iff_exists.mp (by kernel_rfl:(Tryz.prog.info? 88).isSome=true)
theorem zrS:xZ Tryz.prog 37=some [(0,1),(1,1),(2,1),(3,1),(4,1)]:=by kernel_rfl
theorem zqf:∃ x,Tryz.prog.info? 37=some x:=Option.isSome_iff_exists.mp (by kernel_rfl:(Tryz.prog.info? 37).isSome=true)
theorem yN83:([.sc (.str (⟨#[]⟩:ByteArray)),.sc (.nis 3),.sc (.int .i64 0)]:List T).all (T.nisB Tryz.prog)=true:=by kernel_rfl
theorem yN96:([.sc (.int .i64 0),.sc (.str (⟨#[]⟩:ByteArray)),.sc (.int .i64 0),.sc (.nis 3),.sc (.nis 37),.sc (.int .i64 0),.sc (.str (⟨#[]⟩:ByteArray)),.sc (.int .i64 0),.sc (.nis 3),.sc (.nis 37)]:List T).all (T.nisB Tryz.prog)=true:=by kernel_rfl
theorem yN37:([.sc (.int .i64 0),.sc (.str (⟨#[]⟩:ByteArray)),.sc (.int .i64 0),.sc (.nis 3),.sc (.nis 37)]:List T).all (T.nisB Tryz.prog)=true:=by kernel_rfl
theorem yZ3:mG Tryz.prog 3=some [.t (.sc (.int .i64 0))]:=by kernel_rfl
theorem yZ35:mG Tryz.prog 35=some [.nl]:=by kernel_rfl
theorem yZ23:mG Tryz.prog 23=some [.nl]:=by kernel_rfl
theorem yZ4:mG Tryz.prog 4=some [.t (.sc (.bool false))]:=by kernel_rfl
theorem yS4:kG Tryz.prog 4=some 1:=by kernel_rfl
theorem yA4:n9 Tryz.prog 4=some false:=by kernel_rfl
theorem zsN:n9 Tryz.prog 33=some false:=by kernel_rfl
theorem yZ30:mG Tryz.prog 30=some [.nl]:=by kernel_rfl
theorem yI3:∃ x,Tryz.prog.info? 3=some x:=Option.isSome_iff_exists.mp (by kernel_rfl:(Tryz.prog.info? 3).isSome=true)
theorem yU4:Tryz.prog.underlying 4=some .bool:=by kernel_rfl
theorem yU3:Tryz.prog.underlying 3=some (.int .i64):=by kernel_rfl
theorem yU5:Tryz.prog.underlying 5=some (.int .u8):=by kernel_rfl
theorem yP131:zb2 Tryz.prog 131=some (5,1,1):=by kernel_rfl
theorem yR5:zkk Tryz.prog 5=some [(.sc (.int .u8 0))]:=by kernel_rfl
theorem yU131:Tryz.prog.underlying 131=some (.slice 5):=by kernel_rfl
theorem yE131:zcw Tryz.prog 131=some (5,1):=by kernel_rfl
structure Hd (q:Prop):Prop where
 out:q
theorem kO {p q:Prop} (h:q) (k:Hd q->p:=by intro h;(iterate 3 refine zsT rfl ?_);exact h.1):p:=k ⟨h⟩
theorem cE {p q:Prop} (h:q) (k:Hd q->p:=by intro h;refine zfO ?_;refine rT (xO ?_);exact h.1):p:=k ⟨h⟩
theorem kN {p q:Prop} (h:q) (k:Hd q->p:=by intro h;refine cG (bX ?_);exact h.1):p:=k ⟨h⟩
theorem jQ {p q:Prop} (h:q) (k:Hd q->p:=by intro h;refine kN ?_;refine cC ?_;exact h.1):p:=k ⟨h⟩
theorem tD {p q:Prop} (h:q) (k:Hd q->p:=by intro h;refine kN ?_;refine cE ?_;exact h.1):p:=k ⟨h⟩
theorem zD {p q:Prop} (h:q) (k:Hd q->p:=by intro h;refine r5 (cB (zji (r5 (cB (jR ?_)))));exact h.1):p:=k ⟨h⟩
theorem zcz {p q:Prop} (h:q) (k:Hd q->p:=by intro h;refine zj1 (zeM (zhZ (zeN (xO ?_))));exact h.1):p:=k ⟨h⟩
theorem cS {p q:Prop} (h:q) (k:Hd q->p:=by intro h;refine cC ?_;refine cC ?_;exact h.1):p:=k ⟨h⟩
theorem zbP {p q:Prop} (h:q) (k:Hd q->p:=by intro h;refine gP zkx ?_;refine b7 zns ?_;exact h.1):p:=k ⟨h⟩
theorem fC {p q:Prop} (h:q) (k:Hd q->p:=by intro h;refine tD ?_;refine bQ (cB (jR ?_));exact h.1):p:=k ⟨h⟩
theorem f6 {p q:Prop} (h:q) (k:Hd q->p:=by intro h;refine cE ?_;refine bQ (jR ?_);exact h.1):p:=k ⟨h⟩
theorem vH {p q:Prop} (h:q) (k:Hd q->p:=by intro h;refine kO ?_;refine zsT rfl ?_;exact h.1):p:=k ⟨h⟩
theorem nK {p q:Prop} (h:q) (k:Hd q->p:=by intro h;refine eV (xO (cG (iF ?_)));exact h.1):p:=k ⟨h⟩
theorem zcv {p q:Prop} (h:q) (k:Hd q->p:=by intro h;refine zaQ (xO (bX (cC ?_)));exact h.1):p:=k ⟨h⟩
theorem fU {p q:Prop} (h:q) (k:Hd q->p:=by intro h;refine zqh ?_;refine rT (xO ?_);exact h.1):p:=k ⟨h⟩
theorem kE {p q:Prop} (h:q) (k:Hd q->p:=by intro h;refine cG (jQ ?_);exact h.1):p:=k ⟨h⟩
theorem p9 {p q:Prop} (h:q) (k:Hd q->p:=by intro h;refine kN ?_;refine zlI ?_;exact h.1):p:=k ⟨h⟩
theorem mJ {p q:Prop} (h:q) (k:Hd q->p:=by intro h;refine uO (by kernel_rfl) ?_;refine xO ?_;exact h.1):p:=k ⟨h⟩
theorem mI {p q:Prop} (h:q) (k:Hd q->p:=by intro h;refine cG (qX zmJ (by kernel_rfl) ?_);exact h.1):p:=k ⟨h⟩
theorem zb {p q:Prop} (h:q) (k:Hd q->p:=by intro h;refine n8 ?_;refine rT (xO (sI rfl ?_));refine fC ?_;exact h.1):p:=k ⟨h⟩
theorem dS {p q:Prop} (h:q) (k:Hd q->p:=by intro h;refine n8 ?_;refine cC ?_;exact h.1):p:=k ⟨h⟩
theorem nC {p q:Prop} (h:q) (k:Hd q->p:=by intro h;refine kN ?_;refine cA b9 bN ?_;exact h.1):p:=k ⟨h⟩
theorem xX {p q:Prop} (h:q) (k:Hd q->p:=by intro h;refine tD ?_;refine bQ ?_;exact h.1):p:=k ⟨h⟩
theorem gF {p q:Prop} (h:q) (k:Hd q->p:=by intro h;refine qW ?_;refine cC ?_;exact h.1):p:=k ⟨h⟩
theorem nB {p q:Prop} (h:q) (k:Hd q->p:=by intro h;refine zsT rfl ?_;refine zsT rfl ?_;exact h.1):p:=k ⟨h⟩
theorem bD {p q:Prop} (h:q) (k:Hd q->p:=by intro h;refine zfO ?_;refine rT ?_;exact h.1):p:=k ⟨h⟩
theorem zcu {p q:Prop} (h:q) (k:Hd q->p:=by intro h;refine cG (tD ?_);refine iF ?_;exact h.1):p:=k ⟨h⟩
theorem aR {p q:Prop} (h:q) (k:Hd q->p:=by intro h;refine rT (xO ?_);exact h.1):p:=k ⟨h⟩
theorem p8 {p q:Prop} (h:q) (k:Hd q->p:=by intro h;refine cC ?_;refine aR ?_;refine iF ?_;exact h.1):p:=k ⟨h⟩
theorem gX {p q:Prop} (h:q) (k:Hd q->p:=by intro h;refine kN ?_;refine fU ?_;refine cG ?_;exact h.1):p:=k ⟨h⟩
theorem wX {p q:Prop} (h:q) (k:Hd q->p:=by intro h;refine gP zi0 ?_;refine b7 yA9 ?_;exact h.1):p:=k ⟨h⟩
theorem tP {p q:Prop} (h:q) (k:Hd q->p:=by intro h;refine zbP ?_;refine bA zcD ?_;exact h.1):p:=k ⟨h⟩
theorem eM {p q:Prop} (h:q) (k:Hd q->p:=by intro h;refine kE ?_;refine cC ?_;exact h.1):p:=k ⟨h⟩
theorem k9 {p q:Prop} (h:q) (k:Hd q->p:=by intro h;refine p9 ?_;refine cE ?_;exact h.1):p:=k ⟨h⟩
theorem rY {p q:Prop} (h:q) (k:Hd q->p:=by intro h;refine vH ?_;refine zsT rfl ?_;exact h.1):p:=k ⟨h⟩
theorem p7 {p q:Prop} (h:q) (k:Hd q->p:=by intro h;refine zfO ?_;refine cE ?_;exact h.1):p:=k ⟨h⟩
theorem gE {p q:Prop} (h:q) (k:Hd q->p:=by intro h;refine xX ?_;refine zD ?_;exact h.1):p:=k ⟨h⟩
theorem oC {p q:Prop} (h:q) (k:Hd q->p:=by intro h;refine zcz ?_;refine jQ ?_;exact h.1):p:=k ⟨h⟩
theorem mD {p q:Prop} (h:q) (k:Hd q->p:=by intro h;refine nK ?_;refine jQ ?_;exact h.1):p:=k ⟨h⟩
theorem zi1 {p q:Prop} (h:q) (k:Hd q->p:=by intro h;refine kN ?_;refine gP zg4 ?_;refine b7 yA3 ?_;exact h.1):p:=k ⟨h⟩
theorem zoM {p q:Prop} (h:q) (k:Hd q->p:=by intro h;refine cC ?_;refine zfG ?_;refine zfG ?_;exact h.1):p:=k ⟨h⟩
theorem bU {p q:Prop} (h:q) (k:Hd q->p:=by intro h;refine eV (xO ?_);exact h.1):p:=k ⟨h⟩
theorem za {p q:Prop} (h:q) (k:Hd q->p:=by intro h;refine vH ?_;refine qW ?_;exact h.1):p:=k ⟨h⟩
theorem wC {p q:Prop} (h:q) (k:Hd q->p:=by intro h;refine zcv ?_;refine aQ rfl ?_;refine bD ?_;exact h.1):p:=k ⟨h⟩
theorem gO {p q:Prop} (h:q) (k:Hd q->p:=by intro h;refine zbP ?_;refine cC ?_;exact h.1):p:=k ⟨h⟩
theorem uN {p q:Prop} (h:q) (k:Hd q->p:=by intro h;refine cE ?_;refine kE ?_;refine fU ?_;exact h.1):p:=k ⟨h⟩
theorem xW {p q:Prop} (h:q) (k:Hd q->p:=by intro h;refine kN ?_;refine ziv zks zrS ?_;refine lI bN ?_;refine cE ?_;exact h.1):p:=k ⟨h⟩
theorem hZ {p q:Prop} (h:q) (k:Hd q->p:=by intro h;refine aR ?_;refine kN ?_;exact h.1):p:=k ⟨h⟩
theorem lS {p q:Prop} (h:q) (k:Hd q->p:=by intro h;refine bX (cC ?_);exact h.1):p:=k ⟨h⟩
theorem iL {p q:Prop} (h:q) (k:Hd q->p:=by intro h;refine u1 ?_;refine aR ?_;exact h.1):p:=k ⟨h⟩
theorem nA {p q:Prop} (h:q) (k:Hd q->p:=by intro h;refine zcz ?_;refine xX ?_;refine jR ?_;exact h.1):p:=k ⟨h⟩
theorem k8 {p q:Prop} (h:q) (k:Hd q->p:=by intro h;refine kO ?_;refine kO ?_;exact h.1):p:=k ⟨h⟩
theorem tC {p q:Prop} (h:q) (k:Hd q->p:=by intro h;refine cE ?_;refine jQ ?_;exact h.1):p:=k ⟨h⟩
theorem tB {p q:Prop} (h:q) (k:Hd q->p:=by intro h;refine zaQ (xO (bX ?_));exact h.1):p:=k ⟨h⟩
theorem zdA {p q:Prop} (h:q) (k:Hd q->p:=by intro h;refine za ?_;refine cE ?_;refine bQ (r5 (cB (jR ?_)));exact h.1):p:=k ⟨h⟩
theorem zg8 {p q:Prop} (h:q) (k:Hd q->p:=by intro h;refine fT zks ?_;refine lI bN ?_;exact h.1):p:=k ⟨h⟩
theorem qZ {p q:Prop} (h:q) (k:Hd q->p:=by intro h;refine gP zg3 ?_;refine b7 zlF ?_;exact h.1):p:=k ⟨h⟩
theorem oN {p q:Prop} (h:q) (k:Hd q->p:=by intro h;refine tD ?_;refine kE ?_;exact h.1):p:=k ⟨h⟩
theorem zdz {p q:Prop} (h:q) (k:Hd q->p:=by intro h;refine rY ?_;refine n8 ?_;refine mJ ?_;refine sI rfl ?_;refine gE ?_;exact h.1):p:=k ⟨h⟩
theorem rX {p q:Prop} (h:q) (k:Hd q->p:=by intro h;refine qW ?_;refine aR ?_;exact h.1):p:=k ⟨h⟩
theorem dI {p q:Prop} (h:q) (k:Hd q->p:=by intro h;refine cC ?_;refine rT ?_;exact h.1):p:=k ⟨h⟩
theorem zdy {p q:Prop} (h:q) (k:Hd q->p:=by intro h;refine jQ ?_;refine cC ?_;exact h.1):p:=k ⟨h⟩
theorem zct {p q:Prop} (h:q) (k:Hd q->p:=by intro h;refine nB ?_;refine dS ?_;refine nB ?_;exact h.1):p:=k ⟨h⟩
theorem vG {p q:Prop} (h:q) (k:Hd q->p:=by intro h;refine zj1 (zeM (zhZ (zeN ?_)));exact h.1):p:=k ⟨h⟩
theorem zaj {p q:Prop} (h:q) (k:Hd q->p:=by intro h;refine bY b9 bN ?_;refine cC ?_;exact h.1):p:=k ⟨h⟩
theorem vF {p q:Prop} (h:q) (k:Hd q->p:=by intro h;refine gP ziZ ?_;refine b7 yA3 ?_;exact h.1):p:=k ⟨h⟩
theorem oB {p q:Prop} (h:q) (k:Hd q->p:=by intro h;refine n8 ?_;refine f6 ?_;exact h.1):p:=k ⟨h⟩
theorem zg7 {p q:Prop} (h:q) (k:Hd q->p:=by intro h;refine bY b9 bN ?_;refine fT zks ?_;refine zfO ?_;refine lI bN ?_;refine aR ?_;exact h.1):p:=k ⟨h⟩
theorem zcs {p q:Prop} (h:q) (k:Hd q->p:=by intro h;refine aR ?_;refine jQ ?_;refine aQ rfl ?_;refine tC ?_;exact h.1):p:=k ⟨h⟩
theorem pQ {p q:Prop} (h:q) (k:Hd q->p:=by intro h;refine oC ?_;refine f6 ?_;exact h.1):p:=k ⟨h⟩
theorem oM {p q:Prop} (h:q) (k:Hd q->p:=by intro h;refine qW ?_;refine f6 ?_;exact h.1):p:=k ⟨h⟩
theorem xV {p q:Prop} (h:q) (k:Hd q->p:=by intro h;refine kE ?_;refine tP ?_;refine fU ?_;exact h.1):p:=k ⟨h⟩
theorem m9 {p q:Prop} (h:q) (k:Hd q->p:=by intro h;refine bQ (cB (jR ?_));exact h.1):p:=k ⟨h⟩
theorem zaS {p q:Prop} (h:q) (k:Hd q->p:=by intro h;refine jQ ?_;refine cE ?_;refine bQ (zD ?_);exact h.1):p:=k ⟨h⟩
theorem tA {p q:Prop} (h:q) (k:Hd q->p:=by intro h;refine bU ?_;refine kN ?_;exact h.1):p:=k ⟨h⟩
theorem rW {p q:Prop} (h:q) (k:Hd q->p:=by intro h;refine bD ?_;refine zcv ?_;exact h.1):p:=k ⟨h⟩
theorem mH {p q:Prop} (h:q) (k:Hd q->p:=by intro h;refine eV (tB ?_);exact h.1):p:=k ⟨h⟩
theorem p6 {p q:Prop} (h:q) (k:Hd q->p:=by intro h;refine u1 ?_;refine cC ?_;exact h.1):p:=k ⟨h⟩
theorem qY {p q:Prop} (h:q) (k:Hd q->p:=by intro h;refine zkl ?_;refine aR ?_;exact h.1):p:=k ⟨h⟩
theorem zai {p q:Prop} (h:q) (k:Hd q->p:=by intro h;refine nK ?_;refine mI ?_;refine cS ?_;exact h.1):p:=k ⟨h⟩
theorem zah {p q:Prop} (h:q) (k:Hd q->p:=by intro h;refine n8 ?_;refine aR ?_;exact h.1):p:=k ⟨h⟩
theorem s9 {p q:Prop} (h:q) (k:Hd q->p:=by intro h;refine kO ?_;refine gF ?_;exact h.1):p:=k ⟨h⟩
theorem zg6 {p q:Prop} (h:q) (k:Hd q->p:=by intro h;refine kN ?_;refine vM Hit.row ([]:List Hit) zb1 zlE ?_;refine cE ?_;exact h.1):p:=k ⟨h⟩
theorem xU {p q:Prop} (h:q) (k:Hd q->p:=by intro h;refine gP zmz ?_;refine b7 zlF ?_;exact h.1):p:=k ⟨h⟩
theorem oA {p q:Prop} (h:q) (k:Hd q->p:=by intro h;refine eV (zcv ?_);exact h.1):p:=k ⟨h⟩
theorem y9 {p q:Prop} (h:q) (k:Hd q->p:=by intro h;refine p9 ?_;refine fT zks ?_;exact h.1):p:=k ⟨h⟩
theorem zcr {p q:Prop} (h:q) (k:Hd q->p:=by intro h;refine zfO ?_;refine mJ ?_;exact h.1):p:=k ⟨h⟩
theorem xT {p q:Prop} (h:q) (k:Hd q->p:=by intro h;refine gP zrx ?_;refine b7 yA3 ?_;exact h.1):p:=k ⟨h⟩
theorem zdx {p q:Prop} (h:q) (k:Hd q->p:=by intro h;refine bY b9 bN ?_;refine zg8 ?_;refine aR ?_;exact h.1):p:=k ⟨h⟩
theorem rV {p q:Prop} (h:q) (k:Hd q->p:=by intro h;refine cC ?_;refine zjy ?_;exact h.1):p:=k ⟨h⟩
theorem uM {p q:Prop} (h:q) (k:Hd q->p:=by intro h;refine bU ?_;refine jQ ?_;exact h.1):p:=k ⟨h⟩
theorem uL {p q:Prop} (h:q) (k:Hd q->p:=by intro h;refine wX ?_;refine zkp ?_;exact h.1):p:=k ⟨h⟩
theorem uK {p q:Prop} (h:q) (k:Hd q->p:=by intro h;refine cG (kN ?_);exact h.1):p:=k ⟨h⟩
theorem vE {p q:Prop} (h:q) (k:Hd q->p:=by intro h;refine bU ?_;refine zcu ?_;exact h.1):p:=k ⟨h⟩
theorem y8 {p q:Prop} (h:q) (k:Hd q->p:=by intro h;refine bY b9 bN ?_;refine cS ?_;exact h.1):p:=k ⟨h⟩
theorem wW {p q:Prop} (h:q) (k:Hd q->p:=by intro h;refine bX (cS ?_);exact h.1):p:=k ⟨h⟩
theorem zdw {p q:Prop} (h:q) (k:Hd q->p:=by intro h;refine eM ?_;refine bA zdB ?_;refine fU ?_;exact h.1):p:=k ⟨h⟩
theorem zcq {p q:Prop} (h:q) (k:Hd q->p:=by intro h;refine mD ?_;refine tC ?_;refine cS ?_;exact h.1):p:=k ⟨h⟩
theorem vD {p q:Prop} (h:q) (k:Hd q->p:=by intro h;refine tD ?_;refine zcu ?_;exact h.1):p:=k ⟨h⟩
theorem zmE {p q:Prop} (h:q) (k:Hd q->p:=by intro h;refine zl8 9204 (aB.rowD 3 37) (es:=([]:List aB).map aB.row) (by (conv=>lhs;whnf)<;>rfl) rfl ?_;refine m9 ?_;exact h.1):p:=k ⟨h⟩
theorem rQ {p q:Prop} (h:q) (k:Hd q->p:=by intro h;refine cE ?_;refine zcu ?_;exact h.1):p:=k ⟨h⟩
theorem yT {p q:Prop} (h:q) (k:Hd q->p:=by intro h;refine gP zmx ?_;refine bY b9 bN ?_;exact h.1):p:=k ⟨h⟩
theorem sU {p q:Prop} (h:q) (k:Hd q->p:=by intro h;refine za ?_;refine f6 ?_;exact h.1):p:=k ⟨h⟩
theorem zhj {p q:Prop} (h:q) (k:Hd q->p:=by intro h;refine kO ?_;refine za ?_;refine aR ?_;refine vS rfl ?_;refine bU ?_;exact h.1):p:=k ⟨h⟩
theorem zT {p q:Prop} (h:q) (k:Hd q->p:=by intro h;refine cA b9 bN ?_;refine cA b9 bN ?_;exact h.1):p:=k ⟨h⟩
theorem xA {p q:Prop} (h:q) (k:Hd q->p:=by intro h;refine zj1 (zeM (zeN (xO ?_)));exact h.1):p:=k ⟨h⟩
theorem rP {p q:Prop} (h:q) (k:Hd q->p:=by intro h;refine nC ?_;refine cC ?_;exact h.1):p:=k ⟨h⟩
theorem wA {p q:Prop} (h:q) (k:Hd q->p:=by intro h;refine kO ?_;refine n8 ?_;refine rT ?_;exact h.1):p:=k ⟨h⟩
theorem sT {p q:Prop} (h:q) (k:Hd q->p:=by intro h;refine kN ?_;refine p7 ?_;exact h.1):p:=k ⟨h⟩
theorem qD {p q:Prop} (h:q) (k:Hd q->p:=by intro h;refine zqh ?_;refine cC ?_;exact h.1):p:=k ⟨h⟩
theorem vZ {p q:Prop} (h:q) (k:Hd q->p:=by intro h;refine zjy ?_;refine cC ?_;exact h.1):p:=k ⟨h⟩
theorem zR {p q:Prop} (h:q) (k:Hd q->p:=by intro h;refine gP zg4 ?_;refine b7 yA3 ?_;exact h.1):p:=k ⟨h⟩
theorem zeD {p q:Prop} (h:q) (k:Hd q->p:=by intro h;refine bX (cA b9 bN ?_);refine cS ?_;refine cS ?_;exact h.1):p:=k ⟨h⟩
theorem tS {p q:Prop} (h:q) (k:Hd q->p:=by intro h;refine tD ?_;refine zdy ?_;exact h.1):p:=k ⟨h⟩
theorem tR {p q:Prop} (h:q) (k:Hd q->p:=by intro h;refine cE ?_;refine kE ?_;exact h.1):p:=k ⟨h⟩
theorem yS {p q:Prop} (h:q) (k:Hd q->p:=by intro h;refine gP zmw ?_;refine b7 zrT ?_;exact h.1):p:=k ⟨h⟩
theorem zQ {p q:Prop} (h:q) (k:Hd q->p:=by intro h;refine r5 (cB (zji (r5 ?_)));exact h.1):p:=k ⟨h⟩
theorem zjF {p q:Prop} (h:q) (k:Hd q->p:=by intro h;refine tP ?_;refine zjy ?_;refine n8 ?_;refine cE ?_;refine bQ (r5 (cB (jR ?_)));exact h.1):p:=k ⟨h⟩
theorem yR {p q:Prop} (h:q) (k:Hd q->p:=by intro h;refine gP zmA ?_;refine b7 yA9 ?_;exact h.1):p:=k ⟨h⟩
theorem zhi {p q:Prop} (h:q) (k:Hd q->p:=by intro h;refine xX ?_;refine cB ?_;exact h.1):p:=k ⟨h⟩
theorem uT {p q:Prop} (h:q) (k:Hd q->p:=by intro h;refine zoM ?_;refine p7 ?_;exact h.1):p:=k ⟨h⟩
theorem zbf {p q:Prop} (h:q) (k:Hd q->p:=by intro h;refine nK ?_;refine wW ?_;refine cS ?_;exact h.1):p:=k ⟨h⟩
theorem w9 {p q:Prop} (h:q) (k:Hd q->p:=by intro h;refine nC ?_;refine lI bN ?_;exact h.1):p:=k ⟨h⟩
theorem zbe {p q:Prop} (h:q) (k:Hd q->p:=by intro h;refine p9 ?_;refine zlI ?_;refine cE ?_;exact h.1):p:=k ⟨h⟩
theorem zbd {p q:Prop} (h:q) (k:Hd q->p:=by intro h;refine zoM ?_;refine zfO ?_;refine zcr ?_;exact h.1):p:=k ⟨h⟩
theorem yQ {p q:Prop} (h:q) (k:Hd q->p:=by intro h;refine cA b9 bN ?_;refine cC ?_;exact h.1):p:=k ⟨h⟩
theorem uS {p q:Prop} (h:q) (k:Hd q->p:=by intro h;refine nK ?_;refine kN ?_;exact h.1):p:=k ⟨h⟩
theorem vY {p q:Prop} (h:q) (k:Hd q->p:=by intro h;refine tP ?_;refine p8 ?_;exact h.1):p:=k ⟨h⟩
theorem vX {p q:Prop} (h:q) (k:Hd q->p:=by intro h;refine rY ?_;refine qW ?_;exact h.1):p:=k ⟨h⟩
theorem zeC {p q:Prop} (h:q) (k:Hd q->p:=by intro h;refine bA zcD ?_;refine cC ?_;refine bA zcD ?_;exact h.1):p:=k ⟨h⟩
theorem zP {p q:Prop} (h:q) (k:Hd q->p:=by intro h;refine rX ?_;refine vS rfl ?_;exact h.1):p:=k ⟨h⟩
theorem yP {p q:Prop} (h:q) (k:Hd q->p:=by intro h;refine lS ?_;refine aQ rfl ?_;exact h.1):p:=k ⟨h⟩
theorem uR {p q:Prop} (h:q) (k:Hd q->p:=by intro h;refine zku ?_;refine cC ?_;exact h.1):p:=k ⟨h⟩
theorem w7 {p q:Prop} (h:q) (k:Hd q->p:=by intro h;refine vH ?_;refine zb ?_;exact h.1):p:=k ⟨h⟩
theorem zO {p q:Prop} (h:q) (k:Hd q->p:=by intro h;refine zah ?_;refine sI rfl ?_;exact h.1):p:=k ⟨h⟩
theorem zl4 {p q:Prop} (h:q) (k:Hd q->p:=by intro h;refine oC ?_;refine cE ?_;refine zpj 2 7 9200 (by conv=>lhs;whnf) (by conv=>lhs;whnf) rfl ?_;refine bQ (jR ?_);exact h.1):p:=k ⟨h⟩
theorem zl3 {p q:Prop} (h:q) (k:Hd q->p:=by intro h;refine gP wV ?_;refine wR bN ?_;refine hZ ?_;refine cA znr zcE ?_;refine lI zcE ?_;refine aR ?_;exact h.1):p:=k ⟨h⟩
theorem zN {p q:Prop} (h:q) (k:Hd q->p:=by intro h;refine gP wB ?_;refine zaj ?_;exact h.1):p:=k ⟨h⟩
theorem zbc {p q:Prop} (h:q) (k:Hd q->p:=by intro h;refine gP zkx ?_;refine wR yS35 ?_;exact h.1):p:=k ⟨h⟩
theorem zbb {p q:Prop} (h:q) (k:Hd q->p:=by intro h;refine jQ ?_;refine p7 ?_;refine bQ ?_;exact h.1):p:=k ⟨h⟩
theorem wZ {p q:Prop} (h:q) (k:Hd q->p:=by intro h;refine dS ?_;refine kO ?_;exact h.1):p:=k ⟨h⟩
theorem zhh {p q:Prop} (h:q) (k:Hd q->p:=by intro h;refine kN ?_;refine vM aB.row ([]:List aB) zgX zoq ?_;exact h.1):p:=k ⟨h⟩
theorem zcM {p q:Prop} (h:q) (k:Hd q->p:=by intro h;refine kN ?_;refine zjy ?_;refine cE ?_;exact h.1):p:=k ⟨h⟩
theorem zhg {p q:Prop} (h:q) (k:Hd q->p:=by intro h;refine nB ?_;refine qW ?_;refine cS ?_;refine zjy ?_;exact h.1):p:=k ⟨h⟩
theorem zba {p q:Prop} (h:q) (k:Hd q->p:=by intro h;refine gP zmy ?_;refine b7 yA3 ?_;exact h.1):p:=k ⟨h⟩
theorem yO {p q:Prop} (h:q) (k:Hd q->p:=by intro h;refine vH ?_;refine dS ?_;exact h.1):p:=k ⟨h⟩
theorem yN {p q:Prop} (h:q) (k:Hd q->p:=by intro h;refine bU ?_;refine zdy ?_;exact h.1):p:=k ⟨h⟩
theorem yM {p q:Prop} (h:q) (k:Hd q->p:=by intro h;refine bU ?_;refine uK ?_;exact h.1):p:=k ⟨h⟩
theorem zeB {p q:Prop} (h:q) (k:Hd q->p:=by intro h;refine k9 ?_;refine zi1 ?_;refine vZ ?_;exact h.1):p:=k ⟨h⟩
theorem zjE {p q:Prop} (h:q) (k:Hd q->p:=by intro h;refine rY ?_;refine gF ?_;refine rY ?_;exact h.1):p:=k ⟨h⟩
theorem yL {p q:Prop} (h:q) (k:Hd q->p:=by intro h;refine k9 ?_;refine kN ?_;exact h.1):p:=k ⟨h⟩
theorem zl2 {p q:Prop} (h:q) (k:Hd q->p:=by intro h;refine cE ?_;refine qA 2 7 9200 (by conv=>lhs;whnf) (by conv=>lhs;whnf) rfl ?_;refine bQ (jR ?_);exact h.1):p:=k ⟨h⟩
theorem zM {p q:Prop} (h:q) (k:Hd q->p:=by intro h;refine eV (zaQ (wC ?_));exact h.1):p:=k ⟨h⟩
theorem yK {p q:Prop} (h:q) (k:Hd q->p:=by intro h;refine mD ?_;refine cC ?_;exact h.1):p:=k ⟨h⟩
theorem yJ {p q:Prop} (h:q) (k:Hd q->p:=by intro h;refine zlG ?_;refine f6 ?_;exact h.1):p:=k ⟨h⟩
theorem yI {p q:Prop} (h:q) (k:Hd q->p:=by intro h;refine zjy ?_;refine aR ?_;exact h.1):p:=k ⟨h⟩
theorem zcL {p q:Prop} (h:q) (k:Hd q->p:=by intro h;refine lS ?_;refine cA zmK zer ?_;exact h.1):p:=k ⟨h⟩
theorem zl1 {p q:Prop} (h:q) (k:Hd q->p:=by intro h;refine y9 ?_;refine aR ?_;refine mI ?_;refine zR ?_;refine wX ?_;refine vF ?_;exact h.1):p:=k ⟨h⟩
theorem uQ {p q:Prop} (h:q) (k:Hd q->p:=by intro h;refine cG (zi1 ?_);exact h.1):p:=k ⟨h⟩
theorem zL {p q:Prop} (h:q) (k:Hd q->p:=by intro h;refine lS ?_;refine gO ?_;exact h.1):p:=k ⟨h⟩
theorem zeA {p q:Prop} (h:q) (k:Hd q->p:=by intro h;refine cC ?_;refine zlG ?_;refine dS ?_;exact h.1):p:=k ⟨h⟩
theorem zl0 {p q:Prop} (h:q) (k:Hd q->p:=by intro h;refine aR ?_;refine vS rfl ?_;refine vR 0 ?_;refine vR 3 ?_;refine tA ?_;exact h.1):p:=k ⟨h⟩
theorem zK {p q:Prop} (h:q) (k:Hd q->p:=by intro h;refine u1 ?_;refine gF ?_;exact h.1):p:=k ⟨h⟩
theorem sS {p q:Prop} (h:q) (k:Hd q->p:=by intro h;refine qW ?_;refine rT ?_;exact h.1):p:=k ⟨h⟩
theorem zez {p q:Prop} (h:q) (k:Hd q->p:=by intro h;refine zhi ?_;refine cB (zD ?_);exact h.1):p:=k ⟨h⟩
theorem zjD {p q:Prop} (h:q) (k:Hd q->p:=by intro h;refine kO ?_;refine za ?_;refine zcr ?_;refine bQ (jR ?_);exact h.1):p:=k ⟨h⟩
theorem zJ {p q:Prop} (h:q) (k:Hd q->p:=by intro h;refine tD ?_;refine jQ ?_;exact h.1):p:=k ⟨h⟩
theorem zI {p q:Prop} (h:q) (k:Hd q->p:=by intro h;refine zfO ?_;refine f6 ?_;exact h.1):p:=k ⟨h⟩
theorem zey {p q:Prop} (h:q) (k:Hd q->p:=by intro h;refine xX ?_;refine r5 (zD ?_);exact h.1):p:=k ⟨h⟩
theorem zcK {p q:Prop} (h:q) (k:Hd q->p:=by intro h;refine bA zcD ?_;refine p8 ?_;exact h.1):p:=k ⟨h⟩
theorem zcJ {p q:Prop} (h:q) (k:Hd q->p:=by intro h;refine oN ?_;refine bA zdB ?_;exact h.1):p:=k ⟨h⟩
theorem za9 {p q:Prop} (h:q) (k:Hd q->p:=by intro h;refine nB ?_;refine zb ?_;exact h.1):p:=k ⟨h⟩
theorem za8 {p q:Prop} (h:q) (k:Hd q->p:=by intro h;refine zhi ?_;refine zD ?_;exact h.1):p:=k ⟨h⟩
theorem zhf {p q:Prop} (h:q) (k:Hd q->p:=by intro h;refine vH ?_;refine gF ?_;refine zdA ?_;exact h.1):p:=k ⟨h⟩
theorem za7 {p q:Prop} (h:q) (k:Hd q->p:=by intro h;refine bU ?_;refine mI ?_;exact h.1):p:=k ⟨h⟩
theorem za6 {p q:Prop} (h:q) (k:Hd q->p:=by intro h;refine zoM ?_;refine zg8 ?_;exact h.1):p:=k ⟨h⟩
theorem zcI {p q:Prop} (h:q) (k:Hd q->p:=by intro h;refine zA rfl ?_;refine uN ?_;exact h.1):p:=k ⟨h⟩
theorem za5 {p q:Prop} (h:q) (k:Hd q->p:=by intro h;refine k9 ?_;refine jQ ?_;exact h.1):p:=k ⟨h⟩
theorem za4 {p q:Prop} (h:q) (k:Hd q->p:=by intro h;refine wX ?_;refine zr3 ?_;exact h.1):p:=k ⟨h⟩
theorem za3 {p q:Prop} (h:q) (k:Hd q->p:=by intro h;refine u1 ?_;refine mJ ?_;exact h.1):p:=k ⟨h⟩
theorem zH {p q:Prop} (h:q) (k:Hd q->p:=by intro h;refine r5 (cB (jR ?_));exact h.1):p:=k ⟨h⟩
theorem zex {p q:Prop} (h:q) (k:Hd q->p:=by intro h;refine b7 zns ?_;refine b7 zlF ?_;exact h.1):p:=k ⟨h⟩
theorem zlZ {p q:Prop} (h:q) (k:Hd q->p:=by intro h;refine ziv zqc yL88 ?_;refine fT zqc ?_;refine lI zer ?_;refine mJ ?_;exact h.1):p:=k ⟨h⟩
theorem uP {p q:Prop} (h:q) (k:Hd q->p:=by intro h;refine n8 ?_;refine rT ?_;exact h.1):p:=k ⟨h⟩
end Go.Abs
