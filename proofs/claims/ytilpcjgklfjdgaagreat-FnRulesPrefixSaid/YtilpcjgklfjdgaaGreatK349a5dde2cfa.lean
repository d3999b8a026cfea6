/- A part of the proof: what the functions that the law calls answer, as pure values. -/
import Derived.Test.YtilpcjgklfjdgaaGreatKdfd114e1f3bb
import Derived.Test.YtilpcjgklfjdgaaGreatK25b6b0d87810
import Derived.Test.YtilpcjgklfjdgaaGreatK4ff6a9e918d6
set_option linter.unusedSimpArgs false
set_option linter.unusedVariables false
set_option maxHeartbeats 4000000
namespace Go.Abs
def z5 (fuel:Nat) (x1:(List Bind)) (o1:Bind) (g1:Int):Option Int :=
 match fuel with
 | 0=>none
 | fuel+1 =>
 (bif (decide (g1 < (x1.length:Int))) then
 (idx x1 g1).bind fun v5 =>
 (zdZ fuel v5 o1).bind fun v6 =>
 (bif v6 then
 some g1
 else
 z5 fuel x1 o1 (g1+1))
 else
 some (-1))
def zbc (fuel:Nat) (x1:(List Bind)) (o1:Bind):Option Int :=
 z5 fuel x1 o1 0
def zaR (fuel:Nat) (x1:(List Bind)) (o1:Bind):Option Bool :=
 (zbc fuel x1 o1).bind fun v1 =>
 some (decide (0≤v1))
mutual
def za6 (fuel:Nat) (x1:(List Bind)) (g1:Int) (v5:Bind) (g11:Bool):Option Bool :=
 match fuel with
 | 0=>none
 | fuel+1 =>
 (bif g11 then
 some false
 else
 (sub x1 0 g1).bind fun v14 =>
 (zaR fuel v14 v5).bind fun v15 =>
 (bif v15 then
 some false
 else
 zbz fuel x1 (g1+1)))
def zbz (fuel:Nat) (x1:(List Bind)) (g1:Int):Option Bool :=
 match fuel with
 | 0=>none
 | fuel+1 =>
 (bif (decide (g1 < (x1.length:Int))) then
 (idx x1 g1).bind fun v5 =>
 (zea fuel v5.name).bind fun v6 =>
 (bif (!v6) then
 za6 fuel x1 g1 v5 true
 else
 (zeC fuel v5.scopes).bind fun v8 =>
 (bif (!v8) then
 za6 fuel x1 g1 v5 true
 else
 (zdB fuel v5.id 1 999).bind fun v10 =>
 za6 fuel x1 g1 v5 (!v10)))
 else
 some (decide ((x1.length:Int)≤60)))
end
def zcW (fuel:Nat) (x1:(List Bind)):Option Bool :=
 zbz fuel x1 0
def zfe (fuel:Nat) (x1:Rule) (o1:(List Form)):Option Bool :=
 (zfh fuel x1 o1).bind fun v1 =>
 some (!v1)
def zaa (fuel:Nat) (x1:(List Rule)) (o1:(List Form)) (g1:Int):Option Int :=
 match fuel with
 | 0=>none
 | fuel+1 =>
 (bif (decide (g1 < (x1.length:Int))) then
 (idx x1 g1).bind fun v5 =>
 (zfe fuel v5 o1).bind fun v6 =>
 (bif v6 then
 some g1
 else
 zaa fuel x1 o1 (g1+1))
 else
 some (-1))
def zbC (fuel:Nat) (x1:(List Rule)) (o1:(List Form)):Option Int :=
 zaa fuel x1 o1 0
def zbd (fuel:Nat) (x1:(List Rule)) (o1:(List Form)):Option Bool :=
 (zbC fuel x1 o1).bind fun v1 =>
 some (decide (0≤v1))
def zgj (fuel:Nat) (x1:(List Rule)) (x2:(List Form)):Option Bool :=
 (bif (decide ((x1.length:Int)≤9)) then
 (zdQ fuel x2).bind fun v2 =>
 (bif v2 then
 (zbd fuel x1 x2).bind fun v4 =>
 some (!v4)
 else
 some false)
 else
 some false)
def zbI (fuel:Nat) (x1:(List Int)) (x2:Int) (g1:Int):Option Int :=
 match fuel with
 | 0=>none
 | fuel+1 =>
 (bif (decide (g1 < (x1.length:Int))) then
 (idx x1 g1).bind fun v5 =>
 (bif (decide (x2=v5)) then
 some g1
 else
 zbI fuel x1 x2 (g1+1))
 else
 some (-1))
def zfv (fuel:Nat) (x1:(List Int)) (x2:Int):Option Int :=
 zbI fuel x1 x2 0
def zdb (fuel:Nat) (x1:(List Int)) (x2:Int):Option Bool :=
 (zfv fuel x1 x2).bind fun v1 =>
 some (decide (0≤v1))
def zdg (fuel:Nat) (x1:Int) (o1:(List Int)):Option Bool :=
 (zdb fuel o1 x1).bind fun v1 =>
 some (!v1)
def zZ (fuel:Nat) (x1:(List Int)) (o1:(List Int)) (g1:Int):Option Int :=
 match fuel with
 | 0=>none
 | fuel+1 =>
 (bif (decide (g1 < (x1.length:Int))) then
 (idx x1 g1).bind fun v5 =>
 (zdg fuel v5 o1).bind fun v6 =>
 (bif v6 then
 some g1
 else
 zZ fuel x1 o1 (g1+1))
 else
 some (-1))
def za5 (fuel:Nat) (x1:(List Int)) (o1:(List Int)):Option Int :=
 zZ fuel x1 o1 0
def zaJ (fuel:Nat) (x1:(List Int)) (o1:(List Int)):Option Bool :=
 (za5 fuel x1 o1).bind fun v1 =>
 some (decide (0≤v1))
def zcU (fuel:Nat) (x1:(List Int)) (x2:(List Int)):Option Bool :=
 (zaJ fuel x1 x2).bind fun v1 =>
 some (!v1)
mutual
def zcT (fuel:Nat) (x1:(List Bind)) (x2:Form) (g1:(List Int)) (g2:Int) (g9:Bool):Option (List Int) :=
 match fuel with
 | 0=>none
 | fuel+1 =>
 (bif g9 then
 chk (decide ((g1.length+[g2].length)*8≤140737488355328)) <|
 zbX fuel x1 x2 (g1++[g2]) (g2+1)
 else
 zbX fuel x1 x2 g1 (g2+1))
def zbX (fuel:Nat) (x1:(List Bind)) (x2:Form) (g1:(List Int)) (g2:Int):Option (List Int) :=
 match fuel with
 | 0=>none
 | fuel+1 =>
 (bif (decide (g2 < (x1.length:Int))) then
 (idx x1 g2).bind fun v6 =>
 (bif (decide (v6.name=x2.name)) then
 (zcU fuel v6.scopes x2.scopes).bind fun v8 =>
 zcT fuel x1 x2 g1 g2 v8
 else
 zcT fuel x1 x2 g1 g2 false)
 else
 some g1)
end
def zgl (fuel:Nat) (x1:(List Bind)) (x2:Form):Option (List Int) :=
 zbX fuel x1 x2 ([]:List Int) 0
def zgn (fuel:Nat) (x1:Int) (o1:(List Bind)) (o2:Int):Option Bool :=
 (idx o1 x1).bind fun v1 =>
 (idx o1 o2).bind fun v2 =>
 (zcU fuel v1.scopes v2.scopes).bind fun v3 =>
 some (!v3)
def zan (fuel:Nat) (x1:(List Int)) (o1:(List Bind)) (o2:Int) (g1:Int):Option Int :=
 match fuel with
 | 0=>none
 | fuel+1 =>
 (bif (decide (g1 < (x1.length:Int))) then
 (idx x1 g1).bind fun v5 =>
 (zgn fuel v5 o1 o2).bind fun v6 =>
 (bif v6 then
 some g1
 else
 zan fuel x1 o1 o2 (g1+1))
 else
 some (-1))
def zbY (fuel:Nat) (x1:(List Int)) (o1:(List Bind)) (o2:Int):Option Int :=
 zan fuel x1 o1 o2 0
def zbE (fuel:Nat) (x1:(List Int)) (o1:(List Bind)) (o2:Int):Option Bool :=
 (zbY fuel x1 o1 o2).bind fun v1 =>
 some (decide (0≤v1))
def zdf (fuel:Nat) (x1:(List Bind)) (v1:(List Int)) (g3:Int):Option (Int × Int) :=
 match fuel with
 | 0=>none
 | fuel+1 =>
 (bif (decide (g3 < (v1.length:Int))) then
 (idx v1 g3).bind fun v7 =>
 (zbE fuel v1 x1 v7).bind fun v8 =>
 (bif (!v8) then
 some (v7,1)
 else
 zdf fuel x1 v1 (g3+1))
 else
 some (0,2))
def zhx (fuel:Nat) (x1:(List Bind)) (x2:Form):Option (Int × Int) :=
 (zgl fuel x1 x2).bind fun v1 =>
 (bif (decide ((v1.length:Int)=0)) then
 some (0,0)
 else
 zdf fuel x1 v1 0)
mutual
def zce (fuel:Nat) (x1:(List Bind)) (x2:(List Rule)) (x3:(List Form)) (x4:Form) (g9:Int):Option (Int × Bool) :=
 match fuel with
 | 0=>none
 | fuel+1 =>
 (bif (decide (g9 < (x2.length:Int))) then
 (idx x2 g9).bind fun v13 =>
 (zb2 fuel x1 v13.pattern x3 x4).bind fun v14 =>
 (bif v14.2 then
 some (g9,true)
 else
 zce fuel x1 x2 x3 x4 (g9+1))
 else
 some (0,false))
def zbj (fuel:Nat) (x1:(List Bind)) (x2:(List Rule)) (x3:(List Form)) (x4:Form) (g6:Bool):Option (Int × Bool) :=
 match fuel with
 | 0=>none
 | fuel+1 =>
 (bif g6 then
 some (0,false)
 else
 zce fuel x1 x2 x3 x4 0)
end
def zfa (fuel:Nat) (x1:(List Bind)) (x2:(List Rule)) (x3:(List Form)) (x4:Form):Option (Int × Bool) :=
 (zeA fuel x1).bind fun v1 =>
 (bif (!v1) then
 zbj fuel x1 x2 x3 x4 true
 else
 (zfl fuel x2 x3).bind fun v3 =>
 (bif (!v3) then
 zbj fuel x1 x2 x3 x4 true
 else
 (zbn fuel x4).bind fun v5 =>
 zbj fuel x1 x2 x3 x4 (!v5)))
def zdl (fuel:Nat) (x1:(List Bind)) (x2:Form) (g4:Bool):Option (Int × Int) :=
 match fuel with
 | 0=>none
 | fuel+1 =>
 (bif g4 then
 some (0,0)
 else
 (zhx fuel x1 x2).bind fun v7 =>
 (bif (decide (v7.2≠1)) then
 some (0,v7.2)
 else
 (idx x1 v7.1).bind fun v9 =>
 some (v9.id,1)))
def zeF (fuel:Nat) (x1:(List Bind)) (x2:Form):Option (Int × Int) :=
 (zcW fuel x1).bind fun v1 =>
 (bif (!v1) then
 zdl fuel x1 x2 true
 else
 (zdC fuel x2).bind fun v3 =>
 zdl fuel x1 x2 (!v3))
def zaC (fuel:Nat) (x1:(List Bind)) (x2:Form) (x3:Form) (g6:Bool):Option Bool :=
 match fuel with
 | 0=>none
 | fuel+1 =>
 (bif g6 then
 some false
 else
 (zeF fuel x1 x2).bind fun v9 =>
 (zeF fuel x1 x3).bind fun v10 =>
 (bif (decide (v9.2=1)) then
 (bif (decide (v10.2=1)) then
 (bif (decide (v9.1=v10.1)) then
 some true
 else
 (bif (decide (v9.2=0)) then
 (bif (decide (v10.2=0)) then
 some (decide (x2.name=x3.name))
 else
 some false)
 else
 some false))
 else
 (bif (decide (v9.2=0)) then
 (bif (decide (v10.2=0)) then
 some (decide (x2.name=x3.name))
 else
 some false)
 else
 some false))
 else
 (bif (decide (v9.2=0)) then
 (bif (decide (v10.2=0)) then
 some (decide (x2.name=x3.name))
 else
 some false)
 else
 some false)))
def zdy (fuel:Nat) (x1:(List Bind)) (x2:Form) (x3:Form):Option Bool :=
 (zcW fuel x1).bind fun v1 =>
 (bif (!v1) then
 zaC fuel x1 x2 x3 true
 else
 (zdC fuel x2).bind fun v3 =>
 (bif (!v3) then
 zaC fuel x1 x2 x3 true
 else
 (zdC fuel x3).bind fun v5 =>
 zaC fuel x1 x2 x3 (!v5)))
mutual
def zde (fuel:Nat) (x1:(List Bind)) (x2:Form) (x3:(List Form)) (x4:Form):Option ((List Hit) × Bool) :=
 match fuel with
 | 0=>none
 | fuel+1 =>
 (bif (decide (x2.kind=1)) then
 (bif (decide (x2.name=(⟨#[95]⟩:ByteArray))) then
 some (([]:List Hit),true)
 else
 (zfO fuel x3 x2).bind fun v3 =>
 (bif v3 then
 (zdy fuel x1 x2 x4).bind fun v5 =>
 some (([]:List Hit),v5)
 else
 (zaT fuel x2).bind fun v6 =>
 (zaT fuel x4).bind fun v7 =>
 some ([(Hit.mk v6 0 v7 ([]:List Hit))],true)))
 else
 (bif (decide (x2.kind=2)) then
 (zaq fuel x2 x4).bind fun v9 =>
 some (([]:List Hit),v9)
 else
 (bif (decide (x4.kind≠3)) then
 some (([]:List Hit),false)
 else
 (zeP fuel x2.kids).bind fun v11 =>
 (bif (decide (v11 < 0)) then
 (bif (decide ((x2.kids.length:Int)≠(x4.kids.length:Int))) then
 some (([]:List Hit),false)
 else
 zdd fuel x1 x2 x3 x4 0 ([]:List Hit))
 else
 (bif (decide ((w64 ((x4.kids.length:Int)-(w64 ((x2.kids.length:Int)-2)))) < 0)) then
 some (([]:List Hit),false)
 else
 zdc fuel x1 x2 x3 x4 v11 0 ([]:List Hit))))))
def zdd (fuel:Nat) (x1:(List Bind)) (x2:Form) (x3:(List Form)) (x4:Form) (g14:Int) (g15:(List Hit)):Option ((List Hit) × Bool) :=
 match fuel with
 | 0=>none
 | fuel+1 =>
 (bif (decide (g14 < (x2.kids.length:Int))) then
 (idx x2.kids g14).bind fun v19 =>
 (idx x4.kids g14).bind fun v20 =>
 (zdK fuel v19 v20 x1 x3 g15).bind fun v21 =>
 (bif (!v21.1) then
 some (([]:List Hit),false)
 else
 zdd fuel x1 x2 x3 x4 (g14+1) v21.2)
 else
 zfM fuel  g15)
def zfM (fuel:Nat) (g23:(List Hit)):Option ((List Hit) × Bool) :=
 match fuel with
 | 0=>none
 | fuel+1 =>
 some (g23,true)
def zdc (fuel:Nat) (x1:(List Bind)) (x2:Form) (x3:(List Form)) (x4:Form) (v11:Int) (g26:Int) (g27:(List Hit)):Option ((List Hit) × Bool) :=
 match fuel with
 | 0=>none
 | fuel+1 =>
 (bif (decide (g26 < (w64 (v11-1)))) then
 (idx x2.kids g26).bind fun v30 =>
 (idx x4.kids g26).bind fun v31 =>
 (zdK fuel v30 v31 x1 x3 g27).bind fun v32 =>
 (bif (!v32.1) then
 some (([]:List Hit),false)
 else
 zdc fuel x1 x2 x3 x4 v11 (w64 (g26+1)) v32.2)
 else
 zeE fuel x1 x2 x3 x4 v11 g27)
def zcr (fuel:Nat) (x1:(List Bind)) (x2:Form) (x3:(List Form)) (x4:Form) (v11:Int) (g34:(List Hit)) (v37:(List Form) × (List Int)) (g38:(List Hit)) (g39:Int):Option ((List Hit) × Bool) :=
 match fuel with
 | 0=>none
 | fuel+1 =>
 (bif (decide (g39 < (v37.1.length:Int))) then
 (idx v37.1 g39).bind fun v43 =>
 (zaT fuel v43).bind fun v44 =>
 (idx v37.2 g39).bind fun v45 =>
 chk (decide ((g38.length+[(Hit.mk v44 (w64 (v45+1)) (Form.mk 0 (⟨#[]⟩:ByteArray) 0 ([]:List Int) ([]:List Form)) ([]:List Hit))].length)*192≤140737488355328)) <|
 zcr fuel x1 x2 x3 x4 v11 g34 v37 (g38++[(Hit.mk v44 (w64 (v45+1)) (Form.mk 0 (⟨#[]⟩:ByteArray) 0 ([]:List Int) ([]:List Form)) ([]:List Hit))]) (g39+1)
 else
 zeD fuel x1 x2 x3 x4 v11 g34 g38)
def zcq (fuel:Nat) (x1:(List Bind)) (x2:Form) (x3:(List Form)) (x4:Form) (v11:Int) (g34:(List Hit)) (v49:(List Form)) (g50:Int) (g51:(List Hit)) (v57:(List Hit) × Bool) (g59:Int) (g60:(List Hit)):Option ((List Hit) × Bool) :=
 match fuel with
 | 0=>none
 | fuel+1 =>
 (bif (decide (g59 < (g51.length:Int))) then
 (idx g60 g59).bind fun v63 =>
 (idx v57.1 g59).bind fun v64 =>
 chk (decide ((v63.many.length+[(Hit.mk (Form.mk 0 (⟨#[]⟩:ByteArray) 0 ([]:List Int) ([]:List Form)) 0 (Form.mk 0 (⟨#[]⟩:ByteArray) 0 ([]:List Int) ([]:List Form)) ([]:List Hit))].length)*192≤140737488355328)) <|
 (idx (v63.many++[(Hit.mk (Form.mk 0 (⟨#[]⟩:ByteArray) 0 ([]:List Int) ([]:List Form)) 0 (Form.mk 0 (⟨#[]⟩:ByteArray) 0 ([]:List Int) ([]:List Form)) ([]:List Hit))]) (v63.many.length:Int)).bind fun v66 =>
 (idx g60 g59).bind fun v67 =>
 zcq fuel x1 x2 x3 x4 v11 g34 v49 g50 g51 v57 (w64 (g59+1)) (g60.set g59.toNat (Hit.mk v63.name v63.depth v63.one ((v63.many++[(Hit.mk (Form.mk 0 (⟨#[]⟩:ByteArray) 0 ([]:List Int) ([]:List Form)) 0 (Form.mk 0 (⟨#[]⟩:ByteArray) 0 ([]:List Int) ([]:List Form)) ([]:List Hit))]).set (v63.many.length:Int).toNat v64)))
 else
 zb4 fuel x1 x2 x3 x4 v11 g34 v49 (w64 (g50+1)) g60)
def zb4 (fuel:Nat) (x1:(List Bind)) (x2:Form) (x3:(List Form)) (x4:Form) (v11:Int) (g34:(List Hit)) (v49:(List Form)) (g50:Int) (g51:(List Hit)):Option ((List Hit) × Bool) :=
 match fuel with
 | 0=>none
 | fuel+1 =>
 (bif (decide (g50 < (v49.length:Int))) then
 (idx v49 g50).bind fun v55 =>
 (idx x2.kids (w64 (v11-1))).bind fun v56 =>
 (zde fuel x1 v56 x3 v55).bind fun v57 =>
 (bif (!v57.2) then
 some (([]:List Hit),false)
 else
 zcq fuel x1 x2 x3 x4 v11 g34 v49 g50 g51 v57 0 g51)
 else
 zdU fuel x1 x2 x3 x4 v11 g34 g51)
def zcJ (fuel:Nat) (x1:(List Bind)) (x2:Form) (x3:(List Form)) (x4:Form) (v11:Int) (g71:Int) (g72:(List Hit)):Option ((List Hit) × Bool) :=
 match fuel with
 | 0=>none
 | fuel+1 =>
 (bif (decide (g71 < (x2.kids.length:Int))) then
 (idx x2.kids g71).bind fun v76 =>
 (idx x4.kids (w64 ((w64 ((w64 ((w64 ((w64 (v11-1))+(w64 ((x4.kids.length:Int)-(w64 ((x2.kids.length:Int)-2))))))+g71))-v11))-1))).bind fun v77 =>
 (zdK fuel v76 v77 x1 x3 g72).bind fun v78 =>
 (bif (!v78.1) then
 some (([]:List Hit),false)
 else
 zcJ fuel x1 x2 x3 x4 v11 (g71+1) v78.2)
 else
 some (g72,true))
def zdU (fuel:Nat) (x1:(List Bind)) (x2:Form) (x3:(List Form)) (x4:Form) (v11:Int) (g34:(List Hit)) (g68:(List Hit)):Option ((List Hit) × Bool) :=
 match fuel with
 | 0=>none
 | fuel+1 =>
 chk (decide ((g34.length+g68.length)*192≤140737488355328)) <|
 zcJ fuel x1 x2 x3 x4 v11 (w64 (v11+1)) (g34++g68)
def zeD (fuel:Nat) (x1:(List Bind)) (x2:Form) (x3:(List Form)) (x4:Form) (v11:Int) (g34:(List Hit)) (g47:(List Hit)):Option ((List Hit) × Bool) :=
 match fuel with
 | 0=>none
 | fuel+1 =>
 (sub x4.kids (w64 (v11-1)) (w64 ((w64 (v11-1))+(w64 ((x4.kids.length:Int)-(w64 ((x2.kids.length:Int)-2))))))).bind fun v49 =>
 zb4 fuel x1 x2 x3 x4 v11 g34 v49 0 g47
def zeE (fuel:Nat) (x1:(List Bind)) (x2:Form) (x3:(List Form)) (x4:Form) (v11:Int) (g34:(List Hit)):Option ((List Hit) × Bool) :=
 match fuel with
 | 0=>none
 | fuel+1 =>
 (idx x2.kids (w64 (v11-1))).bind fun v36 =>
 (zeN fuel v36 x3).bind fun v37 =>
 zcr fuel x1 x2 x3 x4 v11 g34 v37 ([]:List Hit) 0
def zdK (fuel:Nat) (x1:Form) (x2:Form) (o1:(List Bind)) (o2:(List Form)) (o3:(List Hit)):Option (Bool × (List Hit)) :=
 match fuel with
 | 0=>none
 | fuel+1 =>
 (zde fuel o1 x1 o2 x2).bind fun v1 =>
 chk (decide ((o3.length+v1.1.length)*192≤140737488355328)) <|
 some (v1.2,(o3++v1.1))
end
mutual
def zdh (fuel:Nat) (x1:Form):Option Int :=
 match fuel with
 | 0=>none
 | fuel+1 =>
 zb1 fuel x1 1 0
def zb1 (fuel:Nat) (x1:Form) (g1:Int) (g2:Int):Option Int :=
 match fuel with
 | 0=>none
 | fuel+1 =>
 (bif (decide (g2 < (x1.kids.length:Int))) then
 (idx x1.kids g2).bind fun v6 =>
 (zdh fuel v6).bind fun v7 =>
 zb1 fuel x1 (w64 (g1+v7)) (g2+1)
 else
 some g1)
end
mutual
def zcf (fuel:Nat) (x1:(List Bind)) (x2:(List Rule)) (x3:(List Form)) (x4:Form) (g9:Int):Option (Int × Bool) :=
 match fuel with
 | 0=>none
 | fuel+1 =>
 (bif (decide (g9 < (x2.length:Int))) then
 (idx x2 g9).bind fun v13 =>
 (zde fuel x1 v13.pattern x3 x4).bind fun v14 =>
 (bif v14.2 then
 some (g9,true)
 else
 zcf fuel x1 x2 x3 x4 (g9+1))
 else
 some (0,false))
def zbl (fuel:Nat) (x1:(List Bind)) (x2:(List Rule)) (x3:(List Form)) (x4:Form) (g6:Bool):Option (Int × Bool) :=
 match fuel with
 | 0=>none
 | fuel+1 =>
 (bif g6 then
 some (0,false)
 else
 zcf fuel x1 x2 x3 x4 0)
end
def zeb (fuel:Nat) (x1:(List Bind)) (x2:(List Rule)) (x3:(List Form)) (x4:Form):Option (Int × Bool) :=
 (zcW fuel x1).bind fun v1 =>
 (bif (!v1) then
 zbl fuel x1 x2 x3 x4 true
 else
 (zgj fuel x2 x3).bind fun v3 =>
 (bif (!v3) then
 zbl fuel x1 x2 x3 x4 true
 else
 (zbR fuel x4).bind fun v5 =>
 zbl fuel x1 x2 x3 x4 (!v5)))
def zdw (fuel:Nat) (x1:(List Int)):Option ((List Bind) × (List Rule) × (List Form) × Form) :=
 (zgT fuel x1).bind fun v1 =>
 some (([]:List Bind),v1.2.1,v1.1,v1.2.2)
def zhR (fuel:Nat) (x1:Form) (o1:Bool) (o2:Hit):Option Bool :=
 (bif o1 then
 some true
 else
 (zaq fuel x1 o2.name).bind fun v2 =>
 some v2)
mutual
def za3 (fuel:Nat) (x1:Form) (o1:Bool) (o2:Hit):Option Bool :=
 match fuel with
 | 0=>none
 | fuel+1 =>
 (zhR fuel x1 o1 o2).bind fun v1 =>
 zaD fuel x1 o2 0 v1
def zaD (fuel:Nat) (x1:Form) (o2:Hit) (g2:Int) (g3:Bool):Option Bool :=
 match fuel with
 | 0=>none
 | fuel+1 =>
 (bif (decide (g2 < (x1.kids.length:Int))) then
 (idx x1.kids g2).bind fun v7 =>
 (za3 fuel v7 g3 o2).bind fun v8 =>
 zaD fuel x1 o2 (g2+1) v8
 else
 some g3)
end
def zfw (fuel:Nat) (x1:(List Hit)):Option (List Hit) :=
 chk (decide ((([]:List Hit).length+x1.length)*192≤140737488355328)) <|
 some (([]:List Hit)++x1)
mutual
def zer (fuel:Nat) (x1:Form) (x2:(List Hit)):Option (Form × Bool) :=
 match fuel with
 | 0=>none
 | fuel+1 =>
 (bif (decide (x1.kind=1)) then
 (zfP fuel x2 x1).bind fun v2 =>
 (bif (decide (0≤v2)) then
 (idx x2 v2).bind fun v4 =>
 (zaT fuel v4.one).bind fun v5 =>
 some (v5,true)
 else
 (zaT fuel x1).bind fun v6 =>
 some (v6,true))
 else
 zb5 fuel x1 x2 0 x1.kind (⟨#[]⟩:ByteArray) x1.n ([]:List Int) ([]:List Form) 0)
def zdM (fuel:Nat) (x1:Form) (x2:(List Hit)) (g7:Int) (g8:Int) (g9:ByteArray) (g10:Int) (g11:(List Int)) (g12:(List Form)) (g13:Int) (v17:Form) (g28:Int) (g29:(List Int)) (v34:Hit) (g42:Bool):Option (Form × Bool) :=
 match fuel with
 | 0=>none
 | fuel+1 =>
 (bif g42 then
 some ((Form.mk 0 (⟨#[]⟩:ByteArray) 0 ([]:List Int) ([]:List Form)),false)
 else
 zcn fuel x1 x2 g7 g8 g9 g10 g11 g12 g13 v17 (g28+1) (g29++[g28]) (v34.many.length:Int))
def zdN (fuel:Nat) (x1:Form) (x2:(List Hit)) (g7:Int) (g8:Int) (g9:ByteArray) (g10:Int) (g11:(List Int)) (g12:(List Form)) (g13:Int) (v17:Form) (g28:Int) (g29:(List Int)) (g30:Int) (v34:Hit) (g37:Bool):Option (Form × Bool) :=
 match fuel with
 | 0=>none
 | fuel+1 =>
 (bif g37 then
 zcn fuel x1 x2 g7 g8 g9 g10 g11 g12 g13 v17 (g28+1) g29 g30
 else
 chk (decide ((g29.length+[g28].length)*8≤140737488355328)) <|
 (bif (decide (0≤g30)) then
 zdM fuel x1 x2 g7 g8 g9 g10 g11 g12 g13 v17 g28 g29 v34 (decide (g30≠(v34.many.length:Int)))
 else
 zdM fuel x1 x2 g7 g8 g9 g10 g11 g12 g13 v17 g28 g29 v34 false))
def zcn (fuel:Nat) (x1:Form) (x2:(List Hit)) (g7:Int) (g8:Int) (g9:ByteArray) (g10:Int) (g11:(List Int)) (g12:(List Form)) (g13:Int) (v17:Form) (g28:Int) (g29:(List Int)) (g30:Int):Option (Form × Bool) :=
 match fuel with
 | 0=>none
 | fuel+1 =>
 (bif (decide (g28 < (x2.length:Int))) then
 (idx x2 g28).bind fun v34 =>
 (za3 fuel v17 false v34).bind fun v35 =>
 (bif (!v35) then
 zdN fuel x1 x2 g7 g8 g9 g10 g11 g12 g13 v17 g28 g29 g30 v34 true
 else
 zdN fuel x1 x2 g7 g8 g9 g10 g11 g12 g13 v17 g28 g29 g30 v34 (decide (v34.depth=0)))
 else
 zfo fuel x1 x2 g7 g8 g9 g10 g11 g12 g13 v17 g30 g29)
def zc2 (fuel:Nat) (x1:Form) (x2:(List Hit)) (g7:Int) (v17:Form) (g45:Int) (g46:(List Int)) (g48:Int) (g49:Int) (g50:ByteArray) (g51:Int) (g52:(List Int)) (g53:(List Form)) (g54:Int) (g58:Int) (g59:(List Hit)):Option (Form × Bool) :=
 match fuel with
 | 0=>none
 | fuel+1 =>
 (bif (decide (g58 < (g46.length:Int))) then
 (idx g46 g58).bind fun v63 =>
 (idx x2 v63).bind fun v64 =>
 (idx v64.many g48).bind fun v65 =>
 (idx g59 v63).bind fun v66 =>
 zc2 fuel x1 x2 g7 v17 g45 g46 g48 g49 g50 g51 g52 g53 g54 (g58+1) (g59.set v63.toNat v65)
 else
 zfn fuel x1 x2 g7 v17 g45 g46 g48 g49 g50 g51 g52 g53 g54 g59)
def zfn (fuel:Nat) (x1:Form) (x2:(List Hit)) (g7:Int) (v17:Form) (g45:Int) (g46:(List Int)) (g48:Int) (g49:Int) (g50:ByteArray) (g51:Int) (g52:(List Int)) (g53:(List Form)) (g54:Int) (g67:(List Hit)):Option (Form × Bool) :=
 match fuel with
 | 0=>none
 | fuel+1 =>
 (zeh fuel v17 g67 g54 (Form.mk g49 g50 g51 g52 g53)).bind fun v69 =>
 (bif (!v69.1) then
 some ((Form.mk 0 (⟨#[]⟩:ByteArray) 0 ([]:List Int) ([]:List Form)),false)
 else
 zdL fuel x1 x2 g7 v17 g45 g46 (w64 (g48+1)) v69.2.2.kind v69.2.2.name v69.2.2.n v69.2.2.scopes v69.2.2.kids v69.2.1)
def zdL (fuel:Nat) (x1:Form) (x2:(List Hit)) (g7:Int) (v17:Form) (g45:Int) (g46:(List Int)) (g48:Int) (g49:Int) (g50:ByteArray) (g51:Int) (g52:(List Int)) (g53:(List Form)) (g54:Int):Option (Form × Bool) :=
 match fuel with
 | 0=>none
 | fuel+1 =>
 (bif (decide (g48 < g45)) then
 (zfw fuel x2).bind fun v57 =>
 zc2 fuel x1 x2 g7 v17 g45 g46 g48 g49 g50 g51 g52 g53 g54 0 v57
 else
 zb5 fuel x1 x2 (w64 (g7+1)) g49 g50 g51 g52 g53 g54)
def zfo (fuel:Nat) (x1:Form) (x2:(List Hit)) (g7:Int) (g8:Int) (g9:ByteArray) (g10:Int) (g11:(List Int)) (g12:(List Form)) (g13:Int) (v17:Form) (g45:Int) (g46:(List Int)):Option (Form × Bool) :=
 match fuel with
 | 0=>none
 | fuel+1 =>
 zdL fuel x1 x2 g7 v17 g45 g46 0 g8 g9 g10 g11 g12 g13
def zb6 (fuel:Nat) (x1:Form) (x2:(List Hit)) (g7:Int) (g8:Int) (g9:ByteArray) (g10:Int) (g11:(List Int)) (g12:(List Form)) (g13:Int) (v17:Form) (g23:Bool):Option (Form × Bool) :=
 match fuel with
 | 0=>none
 | fuel+1 =>
 (bif g23 then
 (zeh fuel v17 x2 g13 (Form.mk g8 g9 g10 g11 g12)).bind fun v26 =>
 (bif (!v26.1) then
 some ((Form.mk 0 (⟨#[]⟩:ByteArray) 0 ([]:List Int) ([]:List Form)),false)
 else
 zb5 fuel x1 x2 (g7+1) v26.2.2.kind v26.2.2.name v26.2.2.n v26.2.2.scopes v26.2.2.kids v26.2.1)
 else
 zcn fuel x1 x2 g7 g8 g9 g10 g11 g12 g13 v17 0 ([]:List Int) (-1))
def zb5 (fuel:Nat) (x1:Form) (x2:(List Hit)) (g7:Int) (g8:Int) (g9:ByteArray) (g10:Int) (g11:(List Int)) (g12:(List Form)) (g13:Int):Option (Form × Bool) :=
 match fuel with
 | 0=>none
 | fuel+1 =>
 (bif (decide (g7 < (x1.kids.length:Int))) then
 (idx x1.kids g7).bind fun v17 =>
 (zb0 fuel v17 (⟨#[46,46,46]⟩:ByteArray)).bind fun v18 =>
 (bif v18 then
 zb5 fuel x1 x2 (g7+1) g8 g9 g10 g11 g12 g13
 else
 (bif (decide ((g7+1)=(x1.kids.length:Int))) then
 zb6 fuel x1 x2 g7 g8 g9 g10 g11 g12 g13 v17 true
 else
 (idx x1.kids (g7+1)).bind fun v21 =>
 (zb0 fuel v21 (⟨#[46,46,46]⟩:ByteArray)).bind fun v22 =>
 zb6 fuel x1 x2 g7 g8 g9 g10 g11 g12 g13 v17 (!v22)))
 else
 some ((Form.mk g8 g9 g10 g11 g12),true))
def zeh (fuel:Nat) (x1:Form) (x2:(List Hit)) (o1:Int) (o2:Form):Option (Bool × Int × Form) :=
 match fuel with
 | 0=>none
 | fuel+1 =>
 (zer fuel x1 x2).bind fun v1 =>
 (bif (!v1.2) then
 some (false,o1,o2)
 else
 (zdh fuel v1.1).bind fun v3 =>
 chk (decide ((o2.kids.length+[(Form.mk 0 (⟨#[]⟩:ByteArray) 0 ([]:List Int) ([]:List Form))].length)*80≤140737488355328)) <|
 (idx (o2.kids++[(Form.mk 0 (⟨#[]⟩:ByteArray) 0 ([]:List Int) ([]:List Form))]) (o2.kids.length:Int)).bind fun v5 =>
 some ((decide ((w64 (o1+v3))≤400)),(w64 (o1+v3)),(Form.mk o2.kind o2.name o2.n o2.scopes ((o2.kids++[(Form.mk 0 (⟨#[]⟩:ByteArray) 0 ([]:List Int) ([]:List Form))]).set (o2.kids.length:Int).toNat v1.1))))
end
def zhQ (fuel:Nat) (x1:Form):Option (Form × Bool) :=
 (zbR fuel x1).bind fun v1 =>
 (bif (!v1) then
 some ((Form.mk 0 (⟨#[]⟩:ByteArray) 0 ([]:List Int) ([]:List Form)),false)
 else
 (zaT fuel x1).bind fun v3 =>
 some (v3,true))
def zdY (fuel:Nat) (x1:Form) (x2:(List Hit)):Option (Form × Bool) :=
 (zdx fuel x1 x2).bind fun v1 =>
 (bif (!v1) then
 some ((Form.mk 0 (⟨#[]⟩:ByteArray) 0 ([]:List Int) ([]:List Form)),false)
 else
 (zer fuel x1 x2).bind fun v3 =>
 (bif (!v3.2) then
 some ((Form.mk 0 (⟨#[]⟩:ByteArray) 0 ([]:List Int) ([]:List Form)),false)
 else
 (zhQ fuel v3.1).bind fun v5 =>
 some (v5.1,v5.2)))
mutual
def zee (fuel:Nat) (x1:Form) (x2:Form):Option Bool :=
 match fuel with
 | 0=>none
 | fuel+1 =>
 (bif (decide (x1.kind=1)) then
 (zaP fuel x1 x2).bind fun v2 =>
 (bif v2 then
 some true
 else
 zdn fuel x1 x2 )
 else
 zdn fuel x1 x2 )
def zcx (fuel:Nat) (x1:Form) (x2:Form) (g5:Int):Option Bool :=
 match fuel with
 | 0=>none
 | fuel+1 =>
 (bif (decide (g5 < (x1.kids.length:Int))) then
 (idx x1.kids g5).bind fun v9 =>
 (zee fuel v9 x2).bind fun v10 =>
 (bif v10 then
 some true
 else
 zcx fuel x1 x2 (g5+1))
 else
 some false)
def zdn (fuel:Nat) (x1:Form) (x2:Form):Option Bool :=
 match fuel with
 | 0=>none
 | fuel+1 =>
 zcx fuel x1 x2 0
end
mutual
def zcM (fuel:Nat) (x1:Form) (x2:(List Hit)) (g1:Int):Option Int :=
 match fuel with
 | 0=>none
 | fuel+1 =>
 (idx x2 g1).bind fun v17 =>
 zbU fuel x1 x2 (g1+1) (v17.many.length:Int)
def zci (fuel:Nat) (x1:Form) (x2:(List Hit)) (g1:Int) (g2:Int) (g10:Bool):Option Int :=
 match fuel with
 | 0=>none
 | fuel+1 =>
 (bif g10 then
 zbU fuel x1 x2 (g1+1) g2
 else
 (bif (decide (0≤g2)) then
 (idx x2 g1).bind fun v14 =>
 (bif (decide (g2≠(v14.many.length:Int))) then
 some (-1)
 else
 zcM fuel x1 x2 g1 )
 else
 zcM fuel x1 x2 g1 ))
def zbU (fuel:Nat) (x1:Form) (x2:(List Hit)) (g1:Int) (g2:Int):Option Int :=
 match fuel with
 | 0=>none
 | fuel+1 =>
 (bif (decide (g1 < (x2.length:Int))) then
 (idx x2 g1).bind fun v6 =>
 (bif (decide (v6.depth=0)) then
 zci fuel x1 x2 g1 g2 true
 else
 (idx x2 g1).bind fun v8 =>
 (zee fuel x1 v8.name).bind fun v9 =>
 zci fuel x1 x2 g1 g2 (!v9))
 else
 some g2)
end
def zf8 (fuel:Nat) (x1:Form) (x2:(List Hit)):Option Int :=
 zbU fuel x1 x2 0 (-1)
mutual
def zc5 (fuel:Nat) (x1:Form) (x2:(List Hit)) (x3:Int) (g1:(List Hit)) (g2:Int) (v6:Hit) (g9:Bool):Option (List Hit) :=
 match fuel with
 | 0=>none
 | fuel+1 =>
 (bif g9 then
 (idx v6.many x3).bind fun v12 =>
 chk (decide ((g1.length+[v12].length)*192≤140737488355328)) <|
 zco fuel x1 x2 x3 (g1++[v12]) (g2+1)
 else
 chk (decide ((g1.length+[v6].length)*192≤140737488355328)) <|
 zco fuel x1 x2 x3 (g1++[v6]) (g2+1))
def zco (fuel:Nat) (x1:Form) (x2:(List Hit)) (x3:Int) (g1:(List Hit)) (g2:Int):Option (List Hit) :=
 match fuel with
 | 0=>none
 | fuel+1 =>
 (bif (decide (g2 < (x2.length:Int))) then
 (idx x2 g2).bind fun v6 =>
 (bif (decide (0 < v6.depth)) then
 (zee fuel x1 v6.name).bind fun v8 =>
 zc5 fuel x1 x2 x3 g1 g2 v6 v8
 else
 zc5 fuel x1 x2 x3 g1 g2 v6 false)
 else
 some g1)
end
def zgK (fuel:Nat) (x1:Form) (x2:(List Hit)) (x3:Int):Option (List Hit) :=
 zco fuel x1 x2 x3 ([]:List Hit) 0
mutual
def zdA (fuel:Nat) (x1:Form) (x2:(List Hit)):Option (Form × Bool) :=
 match fuel with
 | 0=>none
 | fuel+1 =>
 (bif (decide (x1.kind=1)) then
 (zeK fuel x2 x1).bind fun v2 =>
 zcD fuel x1 x2 v2
 else
 zcD fuel x1 x2 (-1))
def zcA (fuel:Nat) (x1:Form) (x2:(List Hit)) (g10:Int) (g22:Bool) (g27:Int) (g30:Int) (g31:Int) (g32:(List Form)) (v41:Form × Bool) (v42:Int) (g44:Bool):Option (Form × Bool) :=
 match fuel with
 | 0=>none
 | fuel+1 =>
 (bif g44 then
 some (x1,false)
 else
 chk (decide ((g32.length+[v41.1].length)*80≤140737488355328)) <|
 zcz fuel x1 x2 g10 g22 g27 (w64 (g30+v42)) (w64 (g31+1)) (g32++[v41.1]))
def zdo (fuel:Nat) (x1:Form) (x2:(List Hit)) (g10:Int) (g22:Bool) (g27:Int) (g30:Int) (g31:Int) (g32:(List Form)) (g38:(List Hit)):Option (Form × Bool) :=
 match fuel with
 | 0=>none
 | fuel+1 =>
 (idx x1.kids g10).bind fun v40 =>
 (zdA fuel v40 g38).bind fun v41 =>
 (zdJ fuel v41.1).bind fun v42 =>
 (bif (!v41.2) then
 zcA fuel x1 x2 g10 g22 g27 g30 g31 g32 v41 v42 true
 else
 zcA fuel x1 x2 g10 g22 g27 g30 g31 g32 v41 v42 (decide (400 < (w64 (g30+v42)))))
def zcz (fuel:Nat) (x1:Form) (x2:(List Hit)) (g10:Int) (g22:Bool) (g27:Int) (g30:Int) (g31:Int) (g32:(List Form)):Option (Form × Bool) :=
 match fuel with
 | 0=>none
 | fuel+1 =>
 (bif (decide (g31 < g27)) then
 (bif g22 then
 (idx x1.kids g10).bind fun v36 =>
 (zgK fuel v36 x2 g31).bind fun v37 =>
 zdo fuel x1 x2 g10 g22 g27 g30 g31 g32 v37
 else
 zdo fuel x1 x2 g10 g22 g27 g30 g31 g32 x2)
 else
 zbO fuel x1 x2 (w64 (g10+1)) g30 g32)
def zcB (fuel:Nat) (x1:Form) (x2:(List Hit)) (g10:Int) (g11:Int) (g12:(List Form)) (g22:Bool) (g27:Int):Option (Form × Bool) :=
 match fuel with
 | 0=>none
 | fuel+1 =>
 (bif (decide (g27 < 0)) then
 some (x1,false)
 else
 zcz fuel x1 x2 g10 g22 g27 g11 0 g12)
def zcC (fuel:Nat) (x1:Form) (x2:(List Hit)) (g10:Int) (g11:Int) (g12:(List Form)) (g22:Bool):Option (Form × Bool) :=
 match fuel with
 | 0=>none
 | fuel+1 =>
 (bif g22 then
 (idx x1.kids g10).bind fun v25 =>
 (zf8 fuel v25 x2).bind fun v26 =>
 zcB fuel x1 x2 g10 g11 g12 g22 v26
 else
 zcB fuel x1 x2 g10 g11 g12 g22 1)
def zbO (fuel:Nat) (x1:Form) (x2:(List Hit)) (g10:Int) (g11:Int) (g12:(List Form)):Option (Form × Bool) :=
 match fuel with
 | 0=>none
 | fuel+1 =>
 (bif (decide (g10 < (x1.kids.length:Int))) then
 (idx x1.kids g10).bind fun v16 =>
 (za4 fuel v16).bind fun v17 =>
 (bif v17 then
 zbO fuel x1 x2 (g10+1) g11 g12
 else
 (bif (decide ((g10+1) < (x1.kids.length:Int))) then
 (idx x1.kids (g10+1)).bind fun v20 =>
 (za4 fuel v20).bind fun v21 =>
 zcC fuel x1 x2 g10 g11 g12 v21
 else
 zcC fuel x1 x2 g10 g11 g12 false))
 else
 some ((Form.mk x1.kind x1.name x1.n (([]:List Int)++x1.scopes) g12),true))
def zcD (fuel:Nat) (x1:Form) (x2:(List Hit)) (g3:Int):Option (Form × Bool) :=
 match fuel with
 | 0=>none
 | fuel+1 =>
 (bif (decide (0≤g3)) then
 (idx x2 g3).bind fun v6 =>
 (zcb fuel v6.one).bind fun v7 =>
 (idx x2 g3).bind fun v8 =>
 some (v7,(decide (v8.depth=0)))
 else
 chk (decide ((([]:List Int).length+x1.scopes.length)*8≤140737488355328)) <|
 zbO fuel x1 x2 0 0 ([]:List Form))
end
def zda (fuel:Nat) (x1:(List Int)):Option ((List Bind) × (List Rule) × (List Form) × Form) :=
 (zdw fuel x1).bind fun v1 =>
 some (v1.1,v1.2.1,v1.2.2.1,v1.2.2.2)
def zcX (fuel:Nat) (x1:(List Bind)) (x2:(List Rule)) (x3:(List Form)) (x4:Form):Option (Form × Bool) :=
 (zeb fuel x1 x2 x3 x4).bind fun v1 =>
 (bif (!v1.2) then
 some ((Form.mk 0 (⟨#[]⟩:ByteArray) 0 ([]:List Int) ([]:List Form)),false)
 else
 (idx x2 v1.1).bind fun v3 =>
 (zde fuel x1 v3.pattern x3 x4).bind fun v4 =>
 (idx x2 v1.1).bind fun v5 =>
 (zdY fuel v5.template v4.1).bind fun v6 =>
 some (v6.1,v6.2))
def zf0 (fuel:Nat) (x1:Rule):Option Rule :=
 (zbp fuel x1.pattern).bind fun v1 =>
 (zbp fuel x1.template).bind fun v2 =>
 some (Rule.mk v1 v2)
def zaH (fuel:Nat) (x1:(List Rule)) (g1:(List Rule)) (g2:Int):Option (List Rule) :=
 match fuel with
 | 0=>none
 | fuel+1 =>
 (bif (decide (g2 < (x1.length:Int))) then
 (idx x1 g2).bind fun v6 =>
 (zf0 fuel v6).bind fun v7 =>
 chk (decide ((g1.length+[v7].length)*160≤140737488355328)) <|
 zaH fuel x1 (g1++[v7]) (g2+1)
 else
 some g1)
def zc8 (fuel:Nat) (x1:(List Rule)):Option (List Rule) :=
 zaH fuel x1 ([]:List Rule) 0
def zeB (fuel:Nat) (x1:(List Bind)) (x2:(List Rule)) (x3:(List Form)) (x4:Form):Option (Form × Bool) :=
 (zc8 fuel x2).bind fun v1 =>
 (zfa fuel x1 v1 x3 x4).bind fun v2 =>
 (bif (!v2.2) then
 some ((Form.mk 0 (⟨#[]⟩:ByteArray) 0 ([]:List Int) ([]:List Form)),false)
 else
 (idx v1 v2.1).bind fun v4 =>
 (zb2 fuel x1 v4.pattern x3 x4).bind fun v5 =>
 (idx v1 v2.1).bind fun v6 =>
 (zdA fuel v6.template v5.1).bind fun v7 =>
 (bif (!v7.2) then
 some ((Form.mk 0 (⟨#[]⟩:ByteArray) 0 ([]:List Int) ([]:List Form)),false)
 else
 (zbn fuel v7.1).bind fun v9 =>
 (bif (!v9) then
 some ((Form.mk 0 (⟨#[]⟩:ByteArray) 0 ([]:List Int) ([]:List Form)),false)
 else
 some (v7.1,true))))
mutual
def zbW (fuel:Nat) (g15:Bool):Option Bool :=
 match fuel with
 | 0=>none
 | fuel+1 =>
 some g15
def zaS (fuel:Nat) (v3:(List Bind) × (List Rule) × (List Form) × Form) (v4:Form × Bool) (v5:Form × Bool) (v6:Int × Bool) (g10:Bool):Option Bool :=
 match fuel with
 | 0=>none
 | fuel+1 =>
 (bif g10 then
 (zaq fuel v4.1 v5.1).bind fun v13 =>
 (bif v13 then
 zbW fuel  (decide (v4.2=v5.2))
 else
 zbW fuel  false)
 else
 (sub v3.2.1 0 (w64 (v6.1+1))).bind fun v17 =>
 (zcX fuel v3.1 v17 v3.2.2.1 v3.2.2.2).bind fun v18 =>
 (sub v3.2.1 v6.1 (w64 (v6.1+1))).bind fun v19 =>
 (zcX fuel v3.1 v19 v3.2.2.1 v3.2.2.2).bind fun v20 =>
 (bif (decide (v18.2=v4.2)) then
 (bif (decide (v20.2=v4.2)) then
 (zaq fuel v4.1 v18.1).bind fun v23 =>
 (bif v23 then
 (zaq fuel v4.1 v20.1).bind fun v25 =>
 some v25
 else
 some false)
 else
 some false)
 else
 some false))
end
def zev (fuel:Nat) (x1:(List Int)):Option Bool :=
 (bif (decide (1048576 < (x1.length:Int))) then
 some true
 else
 (zda fuel x1).bind fun v3 =>
 (zcX fuel v3.1 v3.2.1 v3.2.2.1 v3.2.2.2).bind fun v4 =>
 (zeB fuel v3.1 v3.2.1 v3.2.2.1 v3.2.2.2).bind fun v5 =>
 (zeb fuel v3.1 v3.2.1 v3.2.2.1 v3.2.2.2).bind fun v6 =>
 (zaq fuel v4.1 v5.1).bind fun v7 =>
 (bif (!v7) then
 zaS fuel v3 v4 v5 v6 true
 else
 (bif (decide (v4.2≠v5.2)) then
 zaS fuel v3 v4 v5 v6 true
 else
 zaS fuel v3 v4 v5 v6 (!v6.2))))
end Go.Abs
