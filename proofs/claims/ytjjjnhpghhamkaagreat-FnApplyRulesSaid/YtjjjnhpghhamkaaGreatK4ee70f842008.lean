/- A part of the proof: what the functions that the law calls answer, as pure values. -/
import Derived.Test.YtjjjnhpghhamkaaGreatK06634278733b
import Derived.Test.YtjjjnhpghhamkaaGreatK8faf616840a9
import Derived.Test.YtjjjnhpghhamkaaGreatKa18b558014bb
set_option linter.unusedSimpArgs false
set_option linter.unusedVariables false
set_option maxHeartbeats 4000000
namespace Go.Abs
def z5 (fuel:Nat) (x1:(List Bind)) (o1:Bind) (g1:Int):Option Int :=
 match fuel with
 | 0=>none
 | fuel+1 =>
 (bif (decide (g1 < (x1.length:Int))) then
 (idx x1 g1).bind fun v5 =>
 (zdZ fuel v5 o1).bind fun v6 =>
 (bif v6 then
 some g1
 else
 z5 fuel x1 o1 (g1+1))
 else
 some (-1))
def zbf (fuel:Nat) (x1:(List Bind)) (o1:Bind):Option Int :=
 z5 fuel x1 o1 0
def zaV (fuel:Nat) (x1:(List Bind)) (o1:Bind):Option Bool :=
 (zbf fuel x1 o1).bind fun v1 =>
 some (decide (0≤v1))
mutual
def za9 (fuel:Nat) (x1:(List Bind)) (g1:Int) (v5:Bind) (g11:Bool):Option Bool :=
 match fuel with
 | 0=>none
 | fuel+1 =>
 (bif g11 then
 some false
 else
 (sub x1 0 g1).bind fun v14 =>
 (zaV fuel v14 v5).bind fun v15 =>
 (bif v15 then
 some false
 else
 zbB fuel x1 (g1+1)))
def zbB (fuel:Nat) (x1:(List Bind)) (g1:Int):Option Bool :=
 match fuel with
 | 0=>none
 | fuel+1 =>
 (bif (decide (g1 < (x1.length:Int))) then
 (idx x1 g1).bind fun v5 =>
 (zea fuel v5.name).bind fun v6 =>
 (bif (!v6) then
 za9 fuel x1 g1 v5 true
 else
 (zeD fuel v5.scopes).bind fun v8 =>
 (bif (!v8) then
 za9 fuel x1 g1 v5 true
 else
 (zdC fuel v5.id 1 999).bind fun v10 =>
 za9 fuel x1 g1 v5 (!v10)))
 else
 some (decide ((x1.length:Int)≤60)))
end
def zco (fuel:Nat) (x1:(List Bind)):Option Bool :=
 zbB fuel x1 0
def zfh (fuel:Nat) (x1:Rule) (o1:(List Form)):Option Bool :=
 (zfk fuel x1 o1).bind fun v1 =>
 some (!v1)
def z9 (fuel:Nat) (x1:(List Rule)) (o1:(List Form)) (g1:Int):Option Int :=
 match fuel with
 | 0=>none
 | fuel+1 =>
 (bif (decide (g1 < (x1.length:Int))) then
 (idx x1 g1).bind fun v5 =>
 (zfh fuel v5 o1).bind fun v6 =>
 (bif v6 then
 some g1
 else
 z9 fuel x1 o1 (g1+1))
 else
 some (-1))
def zbE (fuel:Nat) (x1:(List Rule)) (o1:(List Form)):Option Int :=
 z9 fuel x1 o1 0
def zbg (fuel:Nat) (x1:(List Rule)) (o1:(List Form)):Option Bool :=
 (zbE fuel x1 o1).bind fun v1 =>
 some (decide (0≤v1))
def zgm (fuel:Nat) (x1:(List Rule)) (x2:(List Form)):Option Bool :=
 (bif (decide ((x1.length:Int)≤9)) then
 (zdR fuel x2).bind fun v2 =>
 (bif v2 then
 (zbg fuel x1 x2).bind fun v4 =>
 some (!v4)
 else
 some false)
 else
 some false)
def zbK (fuel:Nat) (x1:(List Int)) (x2:Int) (g1:Int):Option Int :=
 match fuel with
 | 0=>none
 | fuel+1 =>
 (bif (decide (g1 < (x1.length:Int))) then
 (idx x1 g1).bind fun v5 =>
 (bif (decide (x2=v5)) then
 some g1
 else
 zbK fuel x1 x2 (g1+1))
 else
 some (-1))
def zfy (fuel:Nat) (x1:(List Int)) (x2:Int):Option Int :=
 zbK fuel x1 x2 0
def zdd (fuel:Nat) (x1:(List Int)) (x2:Int):Option Bool :=
 (zfy fuel x1 x2).bind fun v1 =>
 some (decide (0≤v1))
def zdh (fuel:Nat) (x1:Int) (o1:(List Int)):Option Bool :=
 (zdd fuel o1 x1).bind fun v1 =>
 some (!v1)
def zY (fuel:Nat) (x1:(List Int)) (o1:(List Int)) (g1:Int):Option Int :=
 match fuel with
 | 0=>none
 | fuel+1 =>
 (bif (decide (g1 < (x1.length:Int))) then
 (idx x1 g1).bind fun v5 =>
 (zdh fuel v5 o1).bind fun v6 =>
 (bif v6 then
 some g1
 else
 zY fuel x1 o1 (g1+1))
 else
 some (-1))
def za8 (fuel:Nat) (x1:(List Int)) (o1:(List Int)):Option Int :=
 zY fuel x1 o1 0
def zaO (fuel:Nat) (x1:(List Int)) (o1:(List Int)):Option Bool :=
 (za8 fuel x1 o1).bind fun v1 =>
 some (decide (0≤v1))
def zcY (fuel:Nat) (x1:(List Int)) (x2:(List Int)):Option Bool :=
 (zaO fuel x1 x2).bind fun v1 =>
 some (!v1)
mutual
def zcX (fuel:Nat) (x1:(List Bind)) (x2:Form) (g1:(List Int)) (g2:Int) (g9:Bool):Option (List Int) :=
 match fuel with
 | 0=>none
 | fuel+1 =>
 (bif g9 then
 chk (decide ((g1.length+[g2].length)*8≤140737488355328)) <|
 zbY fuel x1 x2 (g1++[g2]) (g2+1)
 else
 zbY fuel x1 x2 g1 (g2+1))
def zbY (fuel:Nat) (x1:(List Bind)) (x2:Form) (g1:(List Int)) (g2:Int):Option (List Int) :=
 match fuel with
 | 0=>none
 | fuel+1 =>
 (bif (decide (g2 < (x1.length:Int))) then
 (idx x1 g2).bind fun v6 =>
 (bif (decide (v6.name=x2.name)) then
 (zcY fuel v6.scopes x2.scopes).bind fun v8 =>
 zcX fuel x1 x2 g1 g2 v8
 else
 zcX fuel x1 x2 g1 g2 false)
 else
 some g1)
end
def zgo (fuel:Nat) (x1:(List Bind)) (x2:Form):Option (List Int) :=
 zbY fuel x1 x2 ([]:List Int) 0
def zgq (fuel:Nat) (x1:Int) (o1:(List Bind)) (o2:Int):Option Bool :=
 (idx o1 x1).bind fun v1 =>
 (idx o1 o2).bind fun v2 =>
 (zcY fuel v1.scopes v2.scopes).bind fun v3 =>
 some (!v3)
def zan (fuel:Nat) (x1:(List Int)) (o1:(List Bind)) (o2:Int) (g1:Int):Option Int :=
 match fuel with
 | 0=>none
 | fuel+1 =>
 (bif (decide (g1 < (x1.length:Int))) then
 (idx x1 g1).bind fun v5 =>
 (zgq fuel v5 o1 o2).bind fun v6 =>
 (bif v6 then
 some g1
 else
 zan fuel x1 o1 o2 (g1+1))
 else
 some (-1))
def zb0 (fuel:Nat) (x1:(List Int)) (o1:(List Bind)) (o2:Int):Option Int :=
 zan fuel x1 o1 o2 0
def zbG (fuel:Nat) (x1:(List Int)) (o1:(List Bind)) (o2:Int):Option Bool :=
 (zb0 fuel x1 o1 o2).bind fun v1 =>
 some (decide (0≤v1))
def zdg (fuel:Nat) (x1:(List Bind)) (v1:(List Int)) (g3:Int):Option (Int × Int) :=
 match fuel with
 | 0=>none
 | fuel+1 =>
 (bif (decide (g3 < (v1.length:Int))) then
 (idx v1 g3).bind fun v7 =>
 (zbG fuel v1 x1 v7).bind fun v8 =>
 (bif (!v8) then
 some (v7,1)
 else
 zdg fuel x1 v1 (g3+1))
 else
 some (0,2))
def zhB (fuel:Nat) (x1:(List Bind)) (x2:Form):Option (Int × Int) :=
 (zgo fuel x1 x2).bind fun v1 =>
 (bif (decide ((v1.length:Int)=0)) then
 some (0,0)
 else
 zdg fuel x1 v1 0)
mutual
def zcg (fuel:Nat) (x1:(List Bind)) (x2:(List Rule)) (x3:(List Form)) (x4:Form) (g9:Int):Option (Int × Bool) :=
 match fuel with
 | 0=>none
 | fuel+1 =>
 (bif (decide (g9 < (x2.length:Int))) then
 (idx x2 g9).bind fun v13 =>
 (zb4 fuel x1 v13.pattern x3 x4).bind fun v14 =>
 (bif v14.2 then
 some (g9,true)
 else
 zcg fuel x1 x2 x3 x4 (g9+1))
 else
 some (0,false))
def zbm (fuel:Nat) (x1:(List Bind)) (x2:(List Rule)) (x3:(List Form)) (x4:Form) (g6:Bool):Option (Int × Bool) :=
 match fuel with
 | 0=>none
 | fuel+1 =>
 (bif g6 then
 some (0,false)
 else
 zcg fuel x1 x2 x3 x4 0)
end
def zd9 (fuel:Nat) (x1:(List Bind)) (x2:(List Rule)) (x3:(List Form)) (x4:Form):Option (Int × Bool) :=
 (zeB fuel x1).bind fun v1 =>
 (bif (!v1) then
 zbm fuel x1 x2 x3 x4 true
 else
 (zfo fuel x2 x3).bind fun v3 =>
 (bif (!v3) then
 zbm fuel x1 x2 x3 x4 true
 else
 (zbq fuel x4).bind fun v5 =>
 zbm fuel x1 x2 x3 x4 (!v5)))
def zdm (fuel:Nat) (x1:(List Bind)) (x2:Form) (g4:Bool):Option (Int × Int) :=
 match fuel with
 | 0=>none
 | fuel+1 =>
 (bif g4 then
 some (0,0)
 else
 (zhB fuel x1 x2).bind fun v7 =>
 (bif (decide (v7.2≠1)) then
 some (0,v7.2)
 else
 (idx x1 v7.1).bind fun v9 =>
 some (v9.id,1)))
def zeG (fuel:Nat) (x1:(List Bind)) (x2:Form):Option (Int × Int) :=
 (zco fuel x1).bind fun v1 =>
 (bif (!v1) then
 zdm fuel x1 x2 true
 else
 (zdD fuel x2).bind fun v3 =>
 zdm fuel x1 x2 (!v3))
def zaD (fuel:Nat) (x1:(List Bind)) (x2:Form) (x3:Form) (g6:Bool):Option Bool :=
 match fuel with
 | 0=>none
 | fuel+1 =>
 (bif g6 then
 some false
 else
 (zeG fuel x1 x2).bind fun v9 =>
 (zeG fuel x1 x3).bind fun v10 =>
 (bif (decide (v9.2=1)) then
 (bif (decide (v10.2=1)) then
 (bif (decide (v9.1=v10.1)) then
 some true
 else
 (bif (decide (v9.2=0)) then
 (bif (decide (v10.2=0)) then
 some (decide (x2.name=x3.name))
 else
 some false)
 else
 some false))
 else
 (bif (decide (v9.2=0)) then
 (bif (decide (v10.2=0)) then
 some (decide (x2.name=x3.name))
 else
 some false)
 else
 some false))
 else
 (bif (decide (v9.2=0)) then
 (bif (decide (v10.2=0)) then
 some (decide (x2.name=x3.name))
 else
 some false)
 else
 some false)))
def zdz (fuel:Nat) (x1:(List Bind)) (x2:Form) (x3:Form):Option Bool :=
 (zco fuel x1).bind fun v1 =>
 (bif (!v1) then
 zaD fuel x1 x2 x3 true
 else
 (zdD fuel x2).bind fun v3 =>
 (bif (!v3) then
 zaD fuel x1 x2 x3 true
 else
 (zdD fuel x3).bind fun v5 =>
 zaD fuel x1 x2 x3 (!v5)))
mutual
def zcN (fuel:Nat) (x1:(List Bind)) (x2:Form) (x3:(List Form)) (x4:Form):Option ((List Hit) × Bool) :=
 match fuel with
 | 0=>none
 | fuel+1 =>
 (bif (decide (x2.kind=1)) then
 (bif (decide (x2.name=(⟨#[95]⟩:ByteArray))) then
 some (([]:List Hit),true)
 else
 (zfS fuel x3 x2).bind fun v3 =>
 (bif v3 then
 (zdz fuel x1 x2 x4).bind fun v5 =>
 some (([]:List Hit),v5)
 else
 (zaW fuel x2).bind fun v6 =>
 (zaW fuel x4).bind fun v7 =>
 some ([(Hit.mk v6 0 v7 ([]:List Hit))],true)))
 else
 (bif (decide (x2.kind=2)) then
 (zav fuel x2 x4).bind fun v9 =>
 some (([]:List Hit),v9)
 else
 (bif (decide (x4.kind≠3)) then
 some (([]:List Hit),false)
 else
 (zeT fuel x2.kids).bind fun v11 =>
 (bif (decide (v11 < 0)) then
 (bif (decide ((x2.kids.length:Int)≠(x4.kids.length:Int))) then
 some (([]:List Hit),false)
 else
 zdf fuel x1 x2 x3 x4 0 ([]:List Hit))
 else
 (bif (decide ((w64 ((x4.kids.length:Int)-(w64 ((x2.kids.length:Int)-2)))) < 0)) then
 some (([]:List Hit),false)
 else
 zde fuel x1 x2 x3 x4 v11 0 ([]:List Hit))))))
def zdf (fuel:Nat) (x1:(List Bind)) (x2:Form) (x3:(List Form)) (x4:Form) (g14:Int) (g15:(List Hit)):Option ((List Hit) × Bool) :=
 match fuel with
 | 0=>none
 | fuel+1 =>
 (bif (decide (g14 < (x2.kids.length:Int))) then
 (idx x2.kids g14).bind fun v19 =>
 (idx x4.kids g14).bind fun v20 =>
 (zdL fuel v19 v20 x1 x3 g15).bind fun v21 =>
 (bif (!v21.1) then
 some (([]:List Hit),false)
 else
 zdf fuel x1 x2 x3 x4 (g14+1) v21.2)
 else
 zfQ fuel  g15)
def zfQ (fuel:Nat) (g23:(List Hit)):Option ((List Hit) × Bool) :=
 match fuel with
 | 0=>none
 | fuel+1 =>
 some (g23,true)
def zde (fuel:Nat) (x1:(List Bind)) (x2:Form) (x3:(List Form)) (x4:Form) (v11:Int) (g26:Int) (g27:(List Hit)):Option ((List Hit) × Bool) :=
 match fuel with
 | 0=>none
 | fuel+1 =>
 (bif (decide (g26 < (w64 (v11-1)))) then
 (idx x2.kids g26).bind fun v30 =>
 (idx x4.kids g26).bind fun v31 =>
 (zdL fuel v30 v31 x1 x3 g27).bind fun v32 =>
 (bif (!v32.1) then
 some (([]:List Hit),false)
 else
 zde fuel x1 x2 x3 x4 v11 (w64 (g26+1)) v32.2)
 else
 zeF fuel x1 x2 x3 x4 v11 g27)
def zcu (fuel:Nat) (x1:(List Bind)) (x2:Form) (x3:(List Form)) (x4:Form) (v11:Int) (g34:(List Hit)) (v37:(List Form) × (List Int)) (g38:(List Hit)) (g39:Int):Option ((List Hit) × Bool) :=
 match fuel with
 | 0=>none
 | fuel+1 =>
 (bif (decide (g39 < (v37.1.length:Int))) then
 (idx v37.1 g39).bind fun v43 =>
 (zaW fuel v43).bind fun v44 =>
 (idx v37.2 g39).bind fun v45 =>
 chk (decide ((g38.length+[(Hit.mk v44 (w64 (v45+1)) (Form.mk 0 (⟨#[]⟩:ByteArray) 0 ([]:List Int) ([]:List Form)) ([]:List Hit))].length)*192≤140737488355328)) <|
 zcu fuel x1 x2 x3 x4 v11 g34 v37 (g38++[(Hit.mk v44 (w64 (v45+1)) (Form.mk 0 (⟨#[]⟩:ByteArray) 0 ([]:List Int) ([]:List Form)) ([]:List Hit))]) (g39+1)
 else
 zeE fuel x1 x2 x3 x4 v11 g34 g38)
def zct (fuel:Nat) (x1:(List Bind)) (x2:Form) (x3:(List Form)) (x4:Form) (v11:Int) (g34:(List Hit)) (v49:(List Form)) (g50:Int) (g51:(List Hit)) (v57:(List Hit) × Bool) (g59:Int) (g60:(List Hit)):Option ((List Hit) × Bool) :=
 match fuel with
 | 0=>none
 | fuel+1 =>
 (bif (decide (g59 < (g51.length:Int))) then
 (idx g60 g59).bind fun v63 =>
 (idx v57.1 g59).bind fun v64 =>
 chk (decide ((v63.many.length+[(Hit.mk (Form.mk 0 (⟨#[]⟩:ByteArray) 0 ([]:List Int) ([]:List Form)) 0 (Form.mk 0 (⟨#[]⟩:ByteArray) 0 ([]:List Int) ([]:List Form)) ([]:List Hit))].length)*192≤140737488355328)) <|
 (idx (v63.many++[(Hit.mk (Form.mk 0 (⟨#[]⟩:ByteArray) 0 ([]:List Int) ([]:List Form)) 0 (Form.mk 0 (⟨#[]⟩:ByteArray) 0 ([]:List Int) ([]:List Form)) ([]:List Hit))]) (v63.many.length:Int)).bind fun v66 =>
 (idx g60 g59).bind fun v67 =>
 zct fuel x1 x2 x3 x4 v11 g34 v49 g50 g51 v57 (w64 (g59+1)) (g60.set g59.toNat (Hit.mk v63.name v63.depth v63.one ((v63.many++[(Hit.mk (Form.mk 0 (⟨#[]⟩:ByteArray) 0 ([]:List Int) ([]:List Form)) 0 (Form.mk 0 (⟨#[]⟩:ByteArray) 0 ([]:List Int) ([]:List Form)) ([]:List Hit))]).set (v63.many.length:Int).toNat v64)))
 else
 zb6 fuel x1 x2 x3 x4 v11 g34 v49 (w64 (g50+1)) g60)
def zb6 (fuel:Nat) (x1:(List Bind)) (x2:Form) (x3:(List Form)) (x4:Form) (v11:Int) (g34:(List Hit)) (v49:(List Form)) (g50:Int) (g51:(List Hit)):Option ((List Hit) × Bool) :=
 match fuel with
 | 0=>none
 | fuel+1 =>
 (bif (decide (g50 < (v49.length:Int))) then
 (idx v49 g50).bind fun v55 =>
 (idx x2.kids (w64 (v11-1))).bind fun v56 =>
 (zcN fuel x1 v56 x3 v55).bind fun v57 =>
 (bif (!v57.2) then
 some (([]:List Hit),false)
 else
 zct fuel x1 x2 x3 x4 v11 g34 v49 g50 g51 v57 0 g51)
 else
 zdV fuel x1 x2 x3 x4 v11 g34 g51)
def zcM (fuel:Nat) (x1:(List Bind)) (x2:Form) (x3:(List Form)) (x4:Form) (v11:Int) (g71:Int) (g72:(List Hit)):Option ((List Hit) × Bool) :=
 match fuel with
 | 0=>none
 | fuel+1 =>
 (bif (decide (g71 < (x2.kids.length:Int))) then
 (idx x2.kids g71).bind fun v76 =>
 (idx x4.kids (w64 ((w64 ((w64 ((w64 ((w64 (v11-1))+(w64 ((x4.kids.length:Int)-(w64 ((x2.kids.length:Int)-2))))))+g71))-v11))-1))).bind fun v77 =>
 (zdL fuel v76 v77 x1 x3 g72).bind fun v78 =>
 (bif (!v78.1) then
 some (([]:List Hit),false)
 else
 zcM fuel x1 x2 x3 x4 v11 (g71+1) v78.2)
 else
 some (g72,true))
def zdV (fuel:Nat) (x1:(List Bind)) (x2:Form) (x3:(List Form)) (x4:Form) (v11:Int) (g34:(List Hit)) (g68:(List Hit)):Option ((List Hit) × Bool) :=
 match fuel with
 | 0=>none
 | fuel+1 =>
 chk (decide ((g34.length+g68.length)*192≤140737488355328)) <|
 zcM fuel x1 x2 x3 x4 v11 (w64 (v11+1)) (g34++g68)
def zeE (fuel:Nat) (x1:(List Bind)) (x2:Form) (x3:(List Form)) (x4:Form) (v11:Int) (g34:(List Hit)) (g47:(List Hit)):Option ((List Hit) × Bool) :=
 match fuel with
 | 0=>none
 | fuel+1 =>
 (sub x4.kids (w64 (v11-1)) (w64 ((w64 (v11-1))+(w64 ((x4.kids.length:Int)-(w64 ((x2.kids.length:Int)-2))))))).bind fun v49 =>
 zb6 fuel x1 x2 x3 x4 v11 g34 v49 0 g47
def zeF (fuel:Nat) (x1:(List Bind)) (x2:Form) (x3:(List Form)) (x4:Form) (v11:Int) (g34:(List Hit)):Option ((List Hit) × Bool) :=
 match fuel with
 | 0=>none
 | fuel+1 =>
 (idx x2.kids (w64 (v11-1))).bind fun v36 =>
 (zeR fuel v36 x3).bind fun v37 =>
 zcu fuel x1 x2 x3 x4 v11 g34 v37 ([]:List Hit) 0
def zdL (fuel:Nat) (x1:Form) (x2:Form) (o1:(List Bind)) (o2:(List Form)) (o3:(List Hit)):Option (Bool × (List Hit)) :=
 match fuel with
 | 0=>none
 | fuel+1 =>
 (zcN fuel o1 x1 o2 x2).bind fun v1 =>
 chk (decide ((o3.length+v1.1.length)*192≤140737488355328)) <|
 some (v1.2,(o3++v1.1))
end
def zaJ (fuel:Nat) (x1:(List Bind)) (x2:Form) (x3:(List Form)) (x4:Form) (g6:Bool):Option ((List Hit) × Bool) :=
 match fuel with
 | 0=>none
 | fuel+1 =>
 (bif g6 then
 some (([]:List Hit),false)
 else
 (zcN fuel x1 x2 x3 x4).bind fun v9 =>
 (bif (!v9.2) then
 some (([]:List Hit),false)
 else
 some (v9.1,true)))
def zdY (fuel:Nat) (x1:(List Bind)) (x2:Form) (x3:(List Form)) (x4:Form):Option ((List Hit) × Bool) :=
 (zco fuel x1).bind fun v1 =>
 (bif (!v1) then
 zaJ fuel x1 x2 x3 x4 true
 else
 (zcZ fuel x2 x3).bind fun v3 =>
 (bif (!v3) then
 zaJ fuel x1 x2 x3 x4 true
 else
 (zbb fuel x4).bind fun v5 =>
 zaJ fuel x1 x2 x3 x4 (!v5)))
mutual
def zdi (fuel:Nat) (x1:Form):Option Int :=
 match fuel with
 | 0=>none
 | fuel+1 =>
 zb3 fuel x1 1 0
def zb3 (fuel:Nat) (x1:Form) (g1:Int) (g2:Int):Option Int :=
 match fuel with
 | 0=>none
 | fuel+1 =>
 (bif (decide (g2 < (x1.kids.length:Int))) then
 (idx x1.kids g2).bind fun v6 =>
 (zdi fuel v6).bind fun v7 =>
 zb3 fuel x1 (w64 (g1+v7)) (g2+1)
 else
 some g1)
end
mutual
def zch (fuel:Nat) (x1:(List Bind)) (x2:(List Rule)) (x3:(List Form)) (x4:Form) (g9:Int):Option (Int × Bool) :=
 match fuel with
 | 0=>none
 | fuel+1 =>
 (bif (decide (g9 < (x2.length:Int))) then
 (idx x2 g9).bind fun v13 =>
 (zcN fuel x1 v13.pattern x3 x4).bind fun v14 =>
 (bif v14.2 then
 some (g9,true)
 else
 zch fuel x1 x2 x3 x4 (g9+1))
 else
 some (0,false))
def zbo (fuel:Nat) (x1:(List Bind)) (x2:(List Rule)) (x3:(List Form)) (x4:Form) (g6:Bool):Option (Int × Bool) :=
 match fuel with
 | 0=>none
 | fuel+1 =>
 (bif g6 then
 some (0,false)
 else
 zch fuel x1 x2 x3 x4 0)
end
def zeb (fuel:Nat) (x1:(List Bind)) (x2:(List Rule)) (x3:(List Form)) (x4:Form):Option (Int × Bool) :=
 (zco fuel x1).bind fun v1 =>
 (bif (!v1) then
 zbo fuel x1 x2 x3 x4 true
 else
 (zgm fuel x2 x3).bind fun v3 =>
 (bif (!v3) then
 zbo fuel x1 x2 x3 x4 true
 else
 (zbb fuel x4).bind fun v5 =>
 zbo fuel x1 x2 x3 x4 (!v5)))
def zdx (fuel:Nat) (x1:(List Int)):Option ((List Bind) × (List Rule) × (List Form) × Form) :=
 (zgW fuel x1).bind fun v1 =>
 some (([]:List Bind),v1.2.1,v1.1,v1.2.2)
def zhU (fuel:Nat) (x1:Form) (o1:Bool) (o2:Hit):Option Bool :=
 (bif o1 then
 some true
 else
 (zav fuel x1 o2.name).bind fun v2 =>
 some v2)
mutual
def za5 (fuel:Nat) (x1:Form) (o1:Bool) (o2:Hit):Option Bool :=
 match fuel with
 | 0=>none
 | fuel+1 =>
 (zhU fuel x1 o1 o2).bind fun v1 =>
 zaE fuel x1 o2 0 v1
def zaE (fuel:Nat) (x1:Form) (o2:Hit) (g2:Int) (g3:Bool):Option Bool :=
 match fuel with
 | 0=>none
 | fuel+1 =>
 (bif (decide (g2 < (x1.kids.length:Int))) then
 (idx x1.kids g2).bind fun v7 =>
 (za5 fuel v7 g3 o2).bind fun v8 =>
 zaE fuel x1 o2 (g2+1) v8
 else
 some g3)
end
def zfz (fuel:Nat) (x1:(List Hit)):Option (List Hit) :=
 chk (decide ((([]:List Hit).length+x1.length)*192≤140737488355328)) <|
 some (([]:List Hit)++x1)
mutual
def zes (fuel:Nat) (x1:Form) (x2:(List Hit)):Option (Form × Bool) :=
 match fuel with
 | 0=>none
 | fuel+1 =>
 (bif (decide (x1.kind=1)) then
 (zfT fuel x2 x1).bind fun v2 =>
 (bif (decide (0≤v2)) then
 (idx x2 v2).bind fun v4 =>
 (zaW fuel v4.one).bind fun v5 =>
 some (v5,true)
 else
 (zaW fuel x1).bind fun v6 =>
 some (v6,true))
 else
 zb7 fuel x1 x2 0 x1.kind (⟨#[]⟩:ByteArray) x1.n ([]:List Int) ([]:List Form) 0)
def zdN (fuel:Nat) (x1:Form) (x2:(List Hit)) (g7:Int) (g8:Int) (g9:ByteArray) (g10:Int) (g11:(List Int)) (g12:(List Form)) (g13:Int) (v17:Form) (g28:Int) (g29:(List Int)) (v34:Hit) (g42:Bool):Option (Form × Bool) :=
 match fuel with
 | 0=>none
 | fuel+1 =>
 (bif g42 then
 some ((Form.mk 0 (⟨#[]⟩:ByteArray) 0 ([]:List Int) ([]:List Form)),false)
 else
 zcq fuel x1 x2 g7 g8 g9 g10 g11 g12 g13 v17 (g28+1) (g29++[g28]) (v34.many.length:Int))
def zdO (fuel:Nat) (x1:Form) (x2:(List Hit)) (g7:Int) (g8:Int) (g9:ByteArray) (g10:Int) (g11:(List Int)) (g12:(List Form)) (g13:Int) (v17:Form) (g28:Int) (g29:(List Int)) (g30:Int) (v34:Hit) (g37:Bool):Option (Form × Bool) :=
 match fuel with
 | 0=>none
 | fuel+1 =>
 (bif g37 then
 zcq fuel x1 x2 g7 g8 g9 g10 g11 g12 g13 v17 (g28+1) g29 g30
 else
 chk (decide ((g29.length+[g28].length)*8≤140737488355328)) <|
 (bif (decide (0≤g30)) then
 zdN fuel x1 x2 g7 g8 g9 g10 g11 g12 g13 v17 g28 g29 v34 (decide (g30≠(v34.many.length:Int)))
 else
 zdN fuel x1 x2 g7 g8 g9 g10 g11 g12 g13 v17 g28 g29 v34 false))
def zcq (fuel:Nat) (x1:Form) (x2:(List Hit)) (g7:Int) (g8:Int) (g9:ByteArray) (g10:Int) (g11:(List Int)) (g12:(List Form)) (g13:Int) (v17:Form) (g28:Int) (g29:(List Int)) (g30:Int):Option (Form × Bool) :=
 match fuel with
 | 0=>none
 | fuel+1 =>
 (bif (decide (g28 < (x2.length:Int))) then
 (idx x2 g28).bind fun v34 =>
 (za5 fuel v17 false v34).bind fun v35 =>
 (bif (!v35) then
 zdO fuel x1 x2 g7 g8 g9 g10 g11 g12 g13 v17 g28 g29 g30 v34 true
 else
 zdO fuel x1 x2 g7 g8 g9 g10 g11 g12 g13 v17 g28 g29 g30 v34 (decide (v34.depth=0)))
 else
 zfr fuel x1 x2 g7 g8 g9 g10 g11 g12 g13 v17 g30 g29)
def zc4 (fuel:Nat) (x1:Form) (x2:(List Hit)) (g7:Int) (v17:Form) (g45:Int) (g46:(List Int)) (g48:Int) (g49:Int) (g50:ByteArray) (g51:Int) (g52:(List Int)) (g53:(List Form)) (g54:Int) (g58:Int) (g59:(List Hit)):Option (Form × Bool) :=
 match fuel with
 | 0=>none
 | fuel+1 =>
 (bif (decide (g58 < (g46.length:Int))) then
 (idx g46 g58).bind fun v63 =>
 (idx x2 v63).bind fun v64 =>
 (idx v64.many g48).bind fun v65 =>
 (idx g59 v63).bind fun v66 =>
 zc4 fuel x1 x2 g7 v17 g45 g46 g48 g49 g50 g51 g52 g53 g54 (g58+1) (g59.set v63.toNat v65)
 else
 zfq fuel x1 x2 g7 v17 g45 g46 g48 g49 g50 g51 g52 g53 g54 g59)
def zfq (fuel:Nat) (x1:Form) (x2:(List Hit)) (g7:Int) (v17:Form) (g45:Int) (g46:(List Int)) (g48:Int) (g49:Int) (g50:ByteArray) (g51:Int) (g52:(List Int)) (g53:(List Form)) (g54:Int) (g67:(List Hit)):Option (Form × Bool) :=
 match fuel with
 | 0=>none
 | fuel+1 =>
 (zeh fuel v17 g67 g54 (Form.mk g49 g50 g51 g52 g53)).bind fun v69 =>
 (bif (!v69.1) then
 some ((Form.mk 0 (⟨#[]⟩:ByteArray) 0 ([]:List Int) ([]:List Form)),false)
 else
 zdM fuel x1 x2 g7 v17 g45 g46 (w64 (g48+1)) v69.2.2.kind v69.2.2.name v69.2.2.n v69.2.2.scopes v69.2.2.kids v69.2.1)
def zdM (fuel:Nat) (x1:Form) (x2:(List Hit)) (g7:Int) (v17:Form) (g45:Int) (g46:(List Int)) (g48:Int) (g49:Int) (g50:ByteArray) (g51:Int) (g52:(List Int)) (g53:(List Form)) (g54:Int):Option (Form × Bool) :=
 match fuel with
 | 0=>none
 | fuel+1 =>
 (bif (decide (g48 < g45)) then
 (zfz fuel x2).bind fun v57 =>
 zc4 fuel x1 x2 g7 v17 g45 g46 g48 g49 g50 g51 g52 g53 g54 0 v57
 else
 zb7 fuel x1 x2 (w64 (g7+1)) g49 g50 g51 g52 g53 g54)
def zfr (fuel:Nat) (x1:Form) (x2:(List Hit)) (g7:Int) (g8:Int) (g9:ByteArray) (g10:Int) (g11:(List Int)) (g12:(List Form)) (g13:Int) (v17:Form) (g45:Int) (g46:(List Int)):Option (Form × Bool) :=
 match fuel with
 | 0=>none
 | fuel+1 =>
 zdM fuel x1 x2 g7 v17 g45 g46 0 g8 g9 g10 g11 g12 g13
def zb8 (fuel:Nat) (x1:Form) (x2:(List Hit)) (g7:Int) (g8:Int) (g9:ByteArray) (g10:Int) (g11:(List Int)) (g12:(List Form)) (g13:Int) (v17:Form) (g23:Bool):Option (Form × Bool) :=
 match fuel with
 | 0=>none
 | fuel+1 =>
 (bif g23 then
 (zeh fuel v17 x2 g13 (Form.mk g8 g9 g10 g11 g12)).bind fun v26 =>
 (bif (!v26.1) then
 some ((Form.mk 0 (⟨#[]⟩:ByteArray) 0 ([]:List Int) ([]:List Form)),false)
 else
 zb7 fuel x1 x2 (g7+1) v26.2.2.kind v26.2.2.name v26.2.2.n v26.2.2.scopes v26.2.2.kids v26.2.1)
 else
 zcq fuel x1 x2 g7 g8 g9 g10 g11 g12 g13 v17 0 ([]:List Int) (-1))
def zb7 (fuel:Nat) (x1:Form) (x2:(List Hit)) (g7:Int) (g8:Int) (g9:ByteArray) (g10:Int) (g11:(List Int)) (g12:(List Form)) (g13:Int):Option (Form × Bool) :=
 match fuel with
 | 0=>none
 | fuel+1 =>
 (bif (decide (g7 < (x1.kids.length:Int))) then
 (idx x1.kids g7).bind fun v17 =>
 (zb2 fuel v17 (⟨#[46,46,46]⟩:ByteArray)).bind fun v18 =>
 (bif v18 then
 zb7 fuel x1 x2 (g7+1) g8 g9 g10 g11 g12 g13
 else
 (bif (decide ((g7+1)=(x1.kids.length:Int))) then
 zb8 fuel x1 x2 g7 g8 g9 g10 g11 g12 g13 v17 true
 else
 (idx x1.kids (g7+1)).bind fun v21 =>
 (zb2 fuel v21 (⟨#[46,46,46]⟩:ByteArray)).bind fun v22 =>
 zb8 fuel x1 x2 g7 g8 g9 g10 g11 g12 g13 v17 (!v22)))
 else
 some ((Form.mk g8 g9 g10 g11 g12),true))
def zeh (fuel:Nat) (x1:Form) (x2:(List Hit)) (o1:Int) (o2:Form):Option (Bool × Int × Form) :=
 match fuel with
 | 0=>none
 | fuel+1 =>
 (zes fuel x1 x2).bind fun v1 =>
 (bif (!v1.2) then
 some (false,o1,o2)
 else
 (zdi fuel v1.1).bind fun v3 =>
 chk (decide ((o2.kids.length+[(Form.mk 0 (⟨#[]⟩:ByteArray) 0 ([]:List Int) ([]:List Form))].length)*80≤140737488355328)) <|
 (idx (o2.kids++[(Form.mk 0 (⟨#[]⟩:ByteArray) 0 ([]:List Int) ([]:List Form))]) (o2.kids.length:Int)).bind fun v5 =>
 some ((decide ((w64 (o1+v3))≤400)),(w64 (o1+v3)),(Form.mk o2.kind o2.name o2.n o2.scopes ((o2.kids++[(Form.mk 0 (⟨#[]⟩:ByteArray) 0 ([]:List Int) ([]:List Form))]).set (o2.kids.length:Int).toNat v1.1))))
end
def zhT (fuel:Nat) (x1:Form):Option (Form × Bool) :=
 (zbb fuel x1).bind fun v1 =>
 (bif (!v1) then
 some ((Form.mk 0 (⟨#[]⟩:ByteArray) 0 ([]:List Int) ([]:List Form)),false)
 else
 (zaW fuel x1).bind fun v3 =>
 some (v3,true))
def zc0 (fuel:Nat) (x1:Form) (x2:(List Hit)):Option (Form × Bool) :=
 (zdy fuel x1 x2).bind fun v1 =>
 (bif (!v1) then
 some ((Form.mk 0 (⟨#[]⟩:ByteArray) 0 ([]:List Int) ([]:List Form)),false)
 else
 (zes fuel x1 x2).bind fun v3 =>
 (bif (!v3.2) then
 some ((Form.mk 0 (⟨#[]⟩:ByteArray) 0 ([]:List Int) ([]:List Form)),false)
 else
 (zhT fuel v3.1).bind fun v5 =>
 some (v5.1,v5.2)))
mutual
def zee (fuel:Nat) (x1:Form) (x2:Form):Option Bool :=
 match fuel with
 | 0=>none
 | fuel+1 =>
 (bif (decide (x1.kind=1)) then
 (zaT fuel x1 x2).bind fun v2 =>
 (bif v2 then
 some true
 else
 zdo fuel x1 x2 )
 else
 zdo fuel x1 x2 )
def zcA (fuel:Nat) (x1:Form) (x2:Form) (g5:Int):Option Bool :=
 match fuel with
 | 0=>none
 | fuel+1 =>
 (bif (decide (g5 < (x1.kids.length:Int))) then
 (idx x1.kids g5).bind fun v9 =>
 (zee fuel v9 x2).bind fun v10 =>
 (bif v10 then
 some true
 else
 zcA fuel x1 x2 (g5+1))
 else
 some false)
def zdo (fuel:Nat) (x1:Form) (x2:Form):Option Bool :=
 match fuel with
 | 0=>none
 | fuel+1 =>
 zcA fuel x1 x2 0
end
mutual
def zcQ (fuel:Nat) (x1:Form) (x2:(List Hit)) (g1:Int):Option Int :=
 match fuel with
 | 0=>none
 | fuel+1 =>
 (idx x2 g1).bind fun v17 =>
 zbW fuel x1 x2 (g1+1) (v17.many.length:Int)
def zcl (fuel:Nat) (x1:Form) (x2:(List Hit)) (g1:Int) (g2:Int) (g10:Bool):Option Int :=
 match fuel with
 | 0=>none
 | fuel+1 =>
 (bif g10 then
 zbW fuel x1 x2 (g1+1) g2
 else
 (bif (decide (0≤g2)) then
 (idx x2 g1).bind fun v14 =>
 (bif (decide (g2≠(v14.many.length:Int))) then
 some (-1)
 else
 zcQ fuel x1 x2 g1 )
 else
 zcQ fuel x1 x2 g1 ))
def zbW (fuel:Nat) (x1:Form) (x2:(List Hit)) (g1:Int) (g2:Int):Option Int :=
 match fuel with
 | 0=>none
 | fuel+1 =>
 (bif (decide (g1 < (x2.length:Int))) then
 (idx x2 g1).bind fun v6 =>
 (bif (decide (v6.depth=0)) then
 zcl fuel x1 x2 g1 g2 true
 else
 (idx x2 g1).bind fun v8 =>
 (zee fuel x1 v8.name).bind fun v9 =>
 zcl fuel x1 x2 g1 g2 (!v9))
 else
 some g2)
end
def zgb (fuel:Nat) (x1:Form) (x2:(List Hit)):Option Int :=
 zbW fuel x1 x2 0 (-1)
mutual
def zc7 (fuel:Nat) (x1:Form) (x2:(List Hit)) (x3:Int) (g1:(List Hit)) (g2:Int) (v6:Hit) (g9:Bool):Option (List Hit) :=
 match fuel with
 | 0=>none
 | fuel+1 =>
 (bif g9 then
 (idx v6.many x3).bind fun v12 =>
 chk (decide ((g1.length+[v12].length)*192≤140737488355328)) <|
 zcr fuel x1 x2 x3 (g1++[v12]) (g2+1)
 else
 chk (decide ((g1.length+[v6].length)*192≤140737488355328)) <|
 zcr fuel x1 x2 x3 (g1++[v6]) (g2+1))
def zcr (fuel:Nat) (x1:Form) (x2:(List Hit)) (x3:Int) (g1:(List Hit)) (g2:Int):Option (List Hit) :=
 match fuel with
 | 0=>none
 | fuel+1 =>
 (bif (decide (g2 < (x2.length:Int))) then
 (idx x2 g2).bind fun v6 =>
 (bif (decide (0 < v6.depth)) then
 (zee fuel x1 v6.name).bind fun v8 =>
 zc7 fuel x1 x2 x3 g1 g2 v6 v8
 else
 zc7 fuel x1 x2 x3 g1 g2 v6 false)
 else
 some g1)
end
def zgL (fuel:Nat) (x1:Form) (x2:(List Hit)) (x3:Int):Option (List Hit) :=
 zcr fuel x1 x2 x3 ([]:List Hit) 0
mutual
def zdB (fuel:Nat) (x1:Form) (x2:(List Hit)):Option (Form × Bool) :=
 match fuel with
 | 0=>none
 | fuel+1 =>
 (bif (decide (x1.kind=1)) then
 (zeN fuel x2 x1).bind fun v2 =>
 zcG fuel x1 x2 v2
 else
 zcG fuel x1 x2 (-1))
def zcD (fuel:Nat) (x1:Form) (x2:(List Hit)) (g10:Int) (g22:Bool) (g27:Int) (g30:Int) (g31:Int) (g32:(List Form)) (v41:Form × Bool) (v42:Int) (g44:Bool):Option (Form × Bool) :=
 match fuel with
 | 0=>none
 | fuel+1 =>
 (bif g44 then
 some (x1,false)
 else
 chk (decide ((g32.length+[v41.1].length)*80≤140737488355328)) <|
 zcC fuel x1 x2 g10 g22 g27 (w64 (g30+v42)) (w64 (g31+1)) (g32++[v41.1]))
def zdp (fuel:Nat) (x1:Form) (x2:(List Hit)) (g10:Int) (g22:Bool) (g27:Int) (g30:Int) (g31:Int) (g32:(List Form)) (g38:(List Hit)):Option (Form × Bool) :=
 match fuel with
 | 0=>none
 | fuel+1 =>
 (idx x1.kids g10).bind fun v40 =>
 (zdB fuel v40 g38).bind fun v41 =>
 (zdK fuel v41.1).bind fun v42 =>
 (bif (!v41.2) then
 zcD fuel x1 x2 g10 g22 g27 g30 g31 g32 v41 v42 true
 else
 zcD fuel x1 x2 g10 g22 g27 g30 g31 g32 v41 v42 (decide (400 < (w64 (g30+v42)))))
def zcC (fuel:Nat) (x1:Form) (x2:(List Hit)) (g10:Int) (g22:Bool) (g27:Int) (g30:Int) (g31:Int) (g32:(List Form)):Option (Form × Bool) :=
 match fuel with
 | 0=>none
 | fuel+1 =>
 (bif (decide (g31 < g27)) then
 (bif g22 then
 (idx x1.kids g10).bind fun v36 =>
 (zgL fuel v36 x2 g31).bind fun v37 =>
 zdp fuel x1 x2 g10 g22 g27 g30 g31 g32 v37
 else
 zdp fuel x1 x2 g10 g22 g27 g30 g31 g32 x2)
 else
 zbR fuel x1 x2 (w64 (g10+1)) g30 g32)
def zcE (fuel:Nat) (x1:Form) (x2:(List Hit)) (g10:Int) (g11:Int) (g12:(List Form)) (g22:Bool) (g27:Int):Option (Form × Bool) :=
 match fuel with
 | 0=>none
 | fuel+1 =>
 (bif (decide (g27 < 0)) then
 some (x1,false)
 else
 zcC fuel x1 x2 g10 g22 g27 g11 0 g12)
def zcF (fuel:Nat) (x1:Form) (x2:(List Hit)) (g10:Int) (g11:Int) (g12:(List Form)) (g22:Bool):Option (Form × Bool) :=
 match fuel with
 | 0=>none
 | fuel+1 =>
 (bif g22 then
 (idx x1.kids g10).bind fun v25 =>
 (zgb fuel v25 x2).bind fun v26 =>
 zcE fuel x1 x2 g10 g11 g12 g22 v26
 else
 zcE fuel x1 x2 g10 g11 g12 g22 1)
def zbR (fuel:Nat) (x1:Form) (x2:(List Hit)) (g10:Int) (g11:Int) (g12:(List Form)):Option (Form × Bool) :=
 match fuel with
 | 0=>none
 | fuel+1 =>
 (bif (decide (g10 < (x1.kids.length:Int))) then
 (idx x1.kids g10).bind fun v16 =>
 (za7 fuel v16).bind fun v17 =>
 (bif v17 then
 zbR fuel x1 x2 (g10+1) g11 g12
 else
 (bif (decide ((g10+1) < (x1.kids.length:Int))) then
 (idx x1.kids (g10+1)).bind fun v20 =>
 (za7 fuel v20).bind fun v21 =>
 zcF fuel x1 x2 g10 g11 g12 v21
 else
 zcF fuel x1 x2 g10 g11 g12 false))
 else
 some ((Form.mk x1.kind x1.name x1.n (([]:List Int)++x1.scopes) g12),true))
def zcG (fuel:Nat) (x1:Form) (x2:(List Hit)) (g3:Int):Option (Form × Bool) :=
 match fuel with
 | 0=>none
 | fuel+1 =>
 (bif (decide (0≤g3)) then
 (idx x2 g3).bind fun v6 =>
 (zcd fuel v6.one).bind fun v7 =>
 (idx x2 g3).bind fun v8 =>
 some (v7,(decide (v8.depth=0)))
 else
 chk (decide ((([]:List Int).length+x1.scopes.length)*8≤140737488355328)) <|
 zbR fuel x1 x2 0 0 ([]:List Form))
end
def zdc (fuel:Nat) (x1:(List Int)):Option ((List Bind) × (List Rule) × (List Form) × Form) :=
 (zdx fuel x1).bind fun v1 =>
 some (v1.1,v1.2.1,v1.2.2.1,v1.2.2.2)
def zeH (fuel:Nat) (x1:(List Bind)) (x2:(List Rule)) (x3:(List Form)) (x4:Form):Option (Form × Bool) :=
 (zeb fuel x1 x2 x3 x4).bind fun v1 =>
 (bif (!v1.2) then
 some ((Form.mk 0 (⟨#[]⟩:ByteArray) 0 ([]:List Int) ([]:List Form)),false)
 else
 (idx x2 v1.1).bind fun v3 =>
 (zcN fuel x1 v3.pattern x3 x4).bind fun v4 =>
 (idx x2 v1.1).bind fun v5 =>
 (zc0 fuel v5.template v4.1).bind fun v6 =>
 some (v6.1,v6.2))
def zf4 (fuel:Nat) (x1:Rule):Option Rule :=
 (zbr fuel x1.pattern).bind fun v1 =>
 (zbr fuel x1.template).bind fun v2 =>
 some (Rule.mk v1 v2)
def zaL (fuel:Nat) (x1:(List Rule)) (g1:(List Rule)) (g2:Int):Option (List Rule) :=
 match fuel with
 | 0=>none
 | fuel+1 =>
 (bif (decide (g2 < (x1.length:Int))) then
 (idx x1 g2).bind fun v6 =>
 (zf4 fuel v6).bind fun v7 =>
 chk (decide ((g1.length+[v7].length)*160≤140737488355328)) <|
 zaL fuel x1 (g1++[v7]) (g2+1)
 else
 some g1)
def zda (fuel:Nat) (x1:(List Rule)):Option (List Rule) :=
 zaL fuel x1 ([]:List Rule) 0
def zeC (fuel:Nat) (x1:(List Bind)) (x2:(List Rule)) (x3:(List Form)) (x4:Form):Option (Form × Bool) :=
 (zda fuel x2).bind fun v1 =>
 (zd9 fuel x1 v1 x3 x4).bind fun v2 =>
 (bif (!v2.2) then
 some ((Form.mk 0 (⟨#[]⟩:ByteArray) 0 ([]:List Int) ([]:List Form)),false)
 else
 (idx v1 v2.1).bind fun v4 =>
 (zb4 fuel x1 v4.pattern x3 x4).bind fun v5 =>
 (idx v1 v2.1).bind fun v6 =>
 (zdB fuel v6.template v5.1).bind fun v7 =>
 (bif (!v7.2) then
 some ((Form.mk 0 (⟨#[]⟩:ByteArray) 0 ([]:List Int) ([]:List Form)),false)
 else
 (zbq fuel v7.1).bind fun v9 =>
 (bif (!v9) then
 some ((Form.mk 0 (⟨#[]⟩:ByteArray) 0 ([]:List Int) ([]:List Form)),false)
 else
 some (v7.1,true))))
mutual
def zaH (fuel:Nat) (g21:Bool):Option Bool :=
 match fuel with
 | 0=>none
 | fuel+1 =>
 some g21
def zaz (fuel:Nat) (v3:(List Bind) × (List Rule) × (List Form) × Form) (v4:Form × Bool) (v5:Form × Bool) (v6:Int × Bool) (v7:Int × Bool) (g13:Bool):Option Bool :=
 match fuel with
 | 0=>none
 | fuel+1 =>
 (bif g13 then
 (zav fuel v4.1 v5.1).bind fun v16 =>
 (bif v16 then
 (bif (decide (v4.2=v5.2)) then
 (bif (decide (v6.1=v7.1)) then
 (bif (decide (v6.2=v7.2)) then
 zaH fuel  (!v4.2)
 else
 zaH fuel  false)
 else
 zaH fuel  false)
 else
 zaH fuel  false)
 else
 zaH fuel  false)
 else
 (idx v3.2.1 v6.1).bind fun v23 =>
 (zdY fuel v3.1 v23.pattern v3.2.2.1 v3.2.2.2).bind fun v24 =>
 (idx v3.2.1 v6.1).bind fun v25 =>
 (zc0 fuel v25.template v24.1).bind fun v26 =>
 (bif v24.2 then
 (bif (decide (v26.2=v4.2)) then
 (bif (!v4.2) then
 some true
 else
 (zav fuel v4.1 v26.1).bind fun v30 =>
 (bif v30 then
 (zbb fuel v4.1).bind fun v32 =>
 some v32
 else
 some false))
 else
 some false)
 else
 some false))
end
def zeQ (fuel:Nat) (x1:(List Int)):Option Bool :=
 (bif (decide (1048576 < (x1.length:Int))) then
 some true
 else
 (zdc fuel x1).bind fun v3 =>
 (zeH fuel v3.1 v3.2.1 v3.2.2.1 v3.2.2.2).bind fun v4 =>
 (zeC fuel v3.1 v3.2.1 v3.2.2.1 v3.2.2.2).bind fun v5 =>
 (zeb fuel v3.1 v3.2.1 v3.2.2.1 v3.2.2.2).bind fun v6 =>
 (zd9 fuel v3.1 v3.2.1 v3.2.2.1 v3.2.2.2).bind fun v7 =>
 (zav fuel v4.1 v5.1).bind fun v8 =>
 (bif (!v8) then
 zaz fuel v3 v4 v5 v6 v7 true
 else
 (bif (decide (v4.2≠v5.2)) then
 zaz fuel v3 v4 v5 v6 v7 true
 else
 (bif (decide (v6.1≠v7.1)) then
 zaz fuel v3 v4 v5 v6 v7 true
 else
 (bif (decide (v6.2≠v7.2)) then
 zaz fuel v3 v4 v5 v6 v7 true
 else
 zaz fuel v3 v4 v5 v6 v7 (!v6.2))))))
end Go.Abs
