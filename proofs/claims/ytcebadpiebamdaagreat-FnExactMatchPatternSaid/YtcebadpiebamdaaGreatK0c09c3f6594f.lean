/- A part of the proof: what the functions that the law calls answer, as pure values. -/
import Derived.Test.YtcebadpiebamdaaGreatK075984cc7243
import Derived.Test.YtcebadpiebamdaaGreatK863b9396a6d1
set_option linter.unusedSimpArgs false
set_option linter.unusedVariables false
set_option maxHeartbeats 4000000
namespace Go.Abs
def zf1 (fuel:Nat) (x1:Form) (x2:(List Form)) (x3:(List (List Hit))):Option (List Hit) :=
 (zcS fuel ([]:List Form) x1 x2).bind fun v1 =>
 (za0 fuel ([]:List Int) x1 x2 0).bind fun v2 =>
 zcw fuel x3 v1 v2 ([]:List Hit) 0
mutual
def zeC (fuel:Nat) (x1:(List Bind)) (x2:(List Form)) (x3:(List Form)) (x4:(List Form)):Option ((List Hit) × Bool) :=
 match fuel with
 | 0=>none
 | fuel+1 =>
 zaZ fuel x1 x2 x3 x4 (-1) 0
def zaZ (fuel:Nat) (x1:(List Bind)) (x2:(List Form)) (x3:(List Form)) (x4:(List Form)) (g1:Int) (g2:Int):Option ((List Hit) × Bool) :=
 match fuel with
 | 0=>none
 | fuel+1 =>
 (bif (decide ((w64 (g2+1)) < (x2.length:Int))) then
 (idx x2 (w64 (g2+1))).bind fun v5 =>
 (zcs fuel v5).bind fun v6 =>
 (bif v6 then
 zaZ fuel x1 x2 x3 x4 g2 (w64 (g2+1))
 else
 zaZ fuel x1 x2 x3 x4 g1 (w64 (g2+1)))
 else
 zc7 fuel x1 x2 x3 x4 g1)
def zcc (fuel:Nat) (x1:(List Bind)) (x2:(List Form)) (x3:(List Form)) (x4:(List Form)) (g8:Int) (g17:Int) (g18:(List Hit)) (g32:Int) (g33:(List (List Hit))) (g34:Int):Option ((List Hit) × Bool) :=
 match fuel with
 | 0=>none
 | fuel+1 =>
 (bif (decide (0 < g34)) then
 (idx x2 g17).bind fun v37 =>
 (idx x4 g32).bind fun v38 =>
 (zcr fuel x1 v37 x3 v38).bind fun v39 =>
 (bif (!v39.2) then
 some (g18,false)
 else
 chk (decide ((g33.length+[v39.1].length)*24≤140737488355328)) <|
 zcc fuel x1 x2 x3 x4 g8 g17 g18 (w64 (g32+1)) (g33++[v39.1]) (w64 (g34-1)))
 else
 zc6 fuel x1 x2 x3 x4 g8 g17 g18 g32 g33)
def zc6 (fuel:Nat) (x1:(List Bind)) (x2:(List Form)) (x3:(List Form)) (x4:(List Form)) (g8:Int) (g17:Int) (g18:(List Hit)) (g42:Int) (g43:(List (List Hit))):Option ((List Hit) × Bool) :=
 match fuel with
 | 0=>none
 | fuel+1 =>
 (idx x2 g17).bind fun v45 =>
 (zf1 fuel v45 x3 g43).bind fun v46 =>
 chk (decide ((g18.length+v46.length)*192≤140737488355328)) <|
 zbz fuel x1 x2 x3 x4 g8 (g17+1) (g18++v46) g42
def zbz (fuel:Nat) (x1:(List Bind)) (x2:(List Form)) (x3:(List Form)) (x4:(List Form)) (g8:Int) (g17:Int) (g18:(List Hit)) (g19:Int):Option ((List Hit) × Bool) :=
 match fuel with
 | 0=>none
 | fuel+1 =>
 (bif (decide (g17 < (x2.length:Int))) then
 (idx x2 g17).bind fun v23 =>
 (zcs fuel v23).bind fun v24 =>
 (bif v24 then
 zbz fuel x1 x2 x3 x4 g8 (g17+1) g18 g19
 else
 (bif (decide (g17≠g8)) then
 (idx x2 g17).bind fun v27 =>
 (idx x4 g19).bind fun v28 =>
 (zcr fuel x1 v27 x3 v28).bind fun v29 =>
 (bif (!v29.2) then
 some (g18,false)
 else
 chk (decide ((g18.length+v29.1.length)*192≤140737488355328)) <|
 zbz fuel x1 x2 x3 x4 g8 (g17+1) (g18++v29.1) (w64 (g19+1)))
 else
 zcc fuel x1 x2 x3 x4 g8 g17 g18 g19 ([]:List (List Hit)) (w64 ((x4.length:Int)-(w64 ((x2.length:Int)-2))))))
 else
 some (g18,true))
def zbW (fuel:Nat) (x1:(List Bind)) (x2:(List Form)) (x3:(List Form)) (x4:(List Form)) (g8:Int):Option ((List Hit) × Bool) :=
 match fuel with
 | 0=>none
 | fuel+1 =>
 zbz fuel x1 x2 x3 x4 g8 0 ([]:List Hit) 0
def zc7 (fuel:Nat) (x1:(List Bind)) (x2:(List Form)) (x3:(List Form)) (x4:(List Form)) (g8:Int):Option ((List Hit) × Bool) :=
 match fuel with
 | 0=>none
 | fuel+1 =>
 (bif (decide (g8 < 0)) then
 (bif (decide ((x2.length:Int)≠(x4.length:Int))) then
 some (([]:List Hit),false)
 else
 (bif (decide (0≤g8)) then
 (bif (decide ((x4.length:Int) < (w64 ((x2.length:Int)-2)))) then
 some (([]:List Hit),false)
 else
 zbW fuel x1 x2 x3 x4 g8 )
 else
 zbW fuel x1 x2 x3 x4 g8 ))
 else
 (bif (decide (0≤g8)) then
 (bif (decide ((x4.length:Int) < (w64 ((x2.length:Int)-2)))) then
 some (([]:List Hit),false)
 else
 zbW fuel x1 x2 x3 x4 g8 )
 else
 zbW fuel x1 x2 x3 x4 g8 ))
def zcr (fuel:Nat) (x1:(List Bind)) (x2:Form) (x3:(List Form)) (x4:Form):Option ((List Hit) × Bool) :=
 match fuel with
 | 0=>none
 | fuel+1 =>
 (bif (decide (x2.kind=1)) then
 (bif (decide (x2.name=(⟨#[95]⟩:ByteArray))) then
 some (([]:List Hit),true)
 else
 (zep fuel x3 x2).bind fun v3 =>
 (bif v3 then
 (bif (decide (x4.kind=1)) then
 (zfr fuel x1 x2 x4).bind fun v6 =>
 zck fuel  v6
 else
 zck fuel  false)
 else
 chk (decide ((([]:List Hit).length+[(Hit.mk x2 0 x4 ([]:List Hit))].length)*192≤140737488355328)) <|
 some ((([]:List Hit)++[(Hit.mk x2 0 x4 ([]:List Hit))]),true)))
 else
 (bif (decide (x2.kind=2)) then
 (zbR fuel x2 x4).bind fun v11 =>
 some (([]:List Hit),v11)
 else
 (bif (decide (x4.kind≠3)) then
 some (([]:List Hit),false)
 else
 (zeC fuel x1 x2.kids x3 x4.kids).bind fun v13 =>
 some (v13.1,v13.2))))
def zck (fuel:Nat) (g7:Bool):Option ((List Hit) × Bool) :=
 match fuel with
 | 0=>none
 | fuel+1 =>
 some (([]:List Hit),g7)
end
mutual
def zbX (fuel:Nat) (x1:Hit):Option Hit :=
 match fuel with
 | 0=>none
 | fuel+1 =>
 (zdf fuel x1.name).bind fun v1 =>
 (zdf fuel x1.one).bind fun v2 =>
 zbY fuel x1 v1 v2 0 ([]:List Hit)
def zbY (fuel:Nat) (x1:Hit) (v1:Form) (v2:Form) (g3:Int) (g4:(List Hit)):Option Hit :=
 match fuel with
 | 0=>none
 | fuel+1 =>
 (bif (decide (g3 < (x1.many.length:Int))) then
 (idx x1.many g3).bind fun v8 =>
 (zbX fuel v8).bind fun v9 =>
 chk (decide ((g4.length+[v9].length)*192≤140737488355328)) <|
 zbY fuel x1 v1 v2 (g3+1) (g4++[v9])
 else
 some (Hit.mk v1 x1.depth v2 g4))
end
def zcH (fuel:Nat) (x1:(List Hit)) (g1:(List Hit)) (g2:Int):Option (List Hit) :=
 match fuel with
 | 0=>none
 | fuel+1 =>
 (bif (decide (g2 < (x1.length:Int))) then
 (idx x1 g2).bind fun v6 =>
 (zbX fuel v6).bind fun v7 =>
 chk (decide ((g1.length+[v7].length)*192≤140737488355328)) <|
 zcH fuel x1 (g1++[v7]) (g2+1)
 else
 some g1)
def zfq (fuel:Nat) (x1:(List Hit)):Option (List Hit) :=
 zcH fuel x1 ([]:List Hit) 0
def zU (fuel:Nat) (x1:(List Bind)) (x2:Form) (x3:(List Form)) (x4:Form) (g6:Bool):Option ((List Hit) × Bool) :=
 match fuel with
 | 0=>none
 | fuel+1 =>
 (bif g6 then
 some (([]:List Hit),false)
 else
 (zcr fuel x1 x2 x3 x4).bind fun v9 =>
 (bif (!v9.2) then
 some (([]:List Hit),false)
 else
 (zfq fuel v9.1).bind fun v11 =>
 some (v11,true)))
def zbr (fuel:Nat) (x1:(List Bind)) (x2:Form) (x3:(List Form)) (x4:Form):Option ((List Hit) × Bool) :=
 (zdE fuel x1).bind fun v1 =>
 (bif (!v1) then
 zU fuel x1 x2 x3 x4 true
 else
 (zgr fuel x2 x3).bind fun v3 =>
 (bif (!v3) then
 zU fuel x1 x2 x3 x4 true
 else
 (zcL fuel x4).bind fun v5 =>
 zU fuel x1 x2 x3 x4 (!v5)))
def zeH (fuel:Nat) (x1:Bind) (x2:Int):Option Int :=
 (bif (decide ((w64 (x2-(x1.name.size:Int))) < 0)) then
 some (-1)
 else
 (zeG fuel x1.scopes (w64 (x2-(x1.name.size:Int)))).bind fun v2 =>
 (bif (decide (v2 < 0)) then
 some (-1)
 else
 some v2))
def zb1 (fuel:Nat) (x1:(List Bind)) (g2:Int) (g3:Int):Option Int :=
 match fuel with
 | 0=>none
 | fuel+1 =>
 (bif (decide (g3 < (x1.length:Int))) then
 (idx x1 g3).bind fun v7 =>
 (zeH fuel v7 g2).bind fun v8 =>
 (bif (decide (v8 < 0)) then
 some (-1)
 else
 zb1 fuel x1 v8 (g3+1))
 else
 some g2)
def zeT (fuel:Nat) (x1:(List Bind)) (x2:Int):Option Int :=
 (bif (decide ((w64 (x2-(x1.length:Int))) < 0)) then
 some (-1)
 else
 zb1 fuel x1 (w64 (x2-(x1.length:Int))) 0)
def zdi (fuel:Nat) (x1:Bind):Option Bind :=
 (zdg fuel x1.scopes).bind fun v1 =>
 some (Bind.mk x1.name v1 x1.id)
def za6 (fuel:Nat) (x1:(List Bind)) (g2:Int) (g3:(List Bind)):Option (List Bind) :=
 match fuel with
 | 0=>none
 | fuel+1 =>
 (bif (decide (g2 < (x1.length:Int))) then
 (idx x1 g2).bind fun v7 =>
 (zdi fuel v7).bind fun v8 =>
 (idx g3 g2).bind fun v9 =>
 za6 fuel x1 (g2+1) (g3.set g2.toNat v8)
 else
 some g3)
def zb2 (fuel:Nat) (x1:(List Bind)):Option (List Bind) :=
 chk (decide (0≤(x1.length:Int))&&decide ((x1.length:Int).toNat*48≤140737488355328)) <|
 za6 fuel x1 0 (List.replicate (x1.length:Int).toNat (Bind.mk (⟨#[]⟩:ByteArray) ([]:List Int) 0))
def zc4 (fuel:Nat) (x1:Bind) (o1:Bind):Option Bool :=
 (bif (decide (x1.name=o1.name)) then
 (zcE fuel x1.scopes o1.scopes).bind fun v2 =>
 some v2
 else
 some false)
def zO (fuel:Nat) (x1:(List Bind)) (o1:Bind) (g1:Int):Option Int :=
 match fuel with
 | 0=>none
 | fuel+1 =>
 (bif (decide (g1 < (x1.length:Int))) then
 (idx x1 g1).bind fun v5 =>
 (zc4 fuel v5 o1).bind fun v6 =>
 (bif v6 then
 some g1
 else
 zO fuel x1 o1 (g1+1))
 else
 some (-1))
def zaR (fuel:Nat) (x1:(List Bind)) (o1:Bind):Option Int :=
 zO fuel x1 o1 0
def zaC (fuel:Nat) (x1:(List Bind)) (o1:Bind):Option Bool :=
 (zaR fuel x1 o1).bind fun v1 =>
 some (decide (0≤v1))
mutual
def zaK (fuel:Nat) (x1:(List Bind)) (g1:Int) (v5:Bind) (g11:Bool):Option Bool :=
 match fuel with
 | 0=>none
 | fuel+1 =>
 (bif g11 then
 some false
 else
 (sub x1 0 g1).bind fun v14 =>
 (zaC fuel v14 v5).bind fun v15 =>
 (bif v15 then
 some false
 else
 zbf fuel x1 (g1+1)))
def zbf (fuel:Nat) (x1:(List Bind)) (g1:Int):Option Bool :=
 match fuel with
 | 0=>none
 | fuel+1 =>
 (bif (decide (g1 < (x1.length:Int))) then
 (idx x1 g1).bind fun v5 =>
 (zdb fuel v5.name).bind fun v6 =>
 (bif (!v6) then
 zaK fuel x1 g1 v5 true
 else
 (zdJ fuel v5.scopes).bind fun v8 =>
 (bif (!v8) then
 zaK fuel x1 g1 v5 true
 else
 (zdl fuel v5.id 1 999).bind fun v10 =>
 zaK fuel x1 g1 v5 (!v10)))
 else
 some (decide ((x1.length:Int)≤60)))
end
def zcp (fuel:Nat) (x1:(List Bind)):Option Bool :=
 zbf fuel x1 0
def zeJ (fuel:Nat) (x1:Bind) (x2:Bind):Option Bool :=
 (bif (decide (x1.name≠x2.name)) then
 some false
 else
 (zeI fuel x1.scopes x2.scopes).bind fun v2 =>
 (bif (!v2) then
 some false
 else
 (bif (decide (x1.id≠x2.id)) then
 some false
 else
 some true)))
def zcm (fuel:Nat) (x1:(List Bind)) (x2:(List Bind)) (g2:Int):Option Bool :=
 match fuel with
 | 0=>none
 | fuel+1 =>
 (bif (decide (g2 < (x1.length:Int))) then
 (idx x1 g2).bind fun v6 =>
 (idx x2 g2).bind fun v7 =>
 (zeJ fuel v6 v7).bind fun v8 =>
 (bif (!v8) then
 some false
 else
 zcm fuel x1 x2 (g2+1))
 else
 some true)
def zeU (fuel:Nat) (x1:(List Bind)) (x2:(List Bind)):Option Bool :=
 (bif (decide ((x1.length:Int)≠(x2.length:Int))) then
 some false
 else
 zcm fuel x1 x2 0)
def zbs (fuel:Nat) (x1:(List Int)) (x2:Int) (g1:Int):Option Int :=
 match fuel with
 | 0=>none
 | fuel+1 =>
 (bif (decide (g1 < (x1.length:Int))) then
 (idx x1 g1).bind fun v5 =>
 (bif (decide (x2=v5)) then
 some g1
 else
 zbs fuel x1 x2 (g1+1))
 else
 some (-1))
def zej (fuel:Nat) (x1:(List Int)) (x2:Int):Option Int :=
 zbs fuel x1 x2 0
def zcx (fuel:Nat) (x1:(List Int)) (x2:Int):Option Bool :=
 (zej fuel x1 x2).bind fun v1 =>
 some (decide (0≤v1))
def zcB (fuel:Nat) (x1:Int) (o1:(List Int)):Option Bool :=
 (zcx fuel o1 x1).bind fun v1 =>
 some (!v1)
def zK (fuel:Nat) (x1:(List Int)) (o1:(List Int)) (g1:Int):Option Int :=
 match fuel with
 | 0=>none
 | fuel+1 =>
 (bif (decide (g1 < (x1.length:Int))) then
 (idx x1 g1).bind fun v5 =>
 (zcB fuel v5 o1).bind fun v6 =>
 (bif v6 then
 some g1
 else
 zK fuel x1 o1 (g1+1))
 else
 some (-1))
def zaJ (fuel:Nat) (x1:(List Int)) (o1:(List Int)):Option Int :=
 zK fuel x1 o1 0
def zas (fuel:Nat) (x1:(List Int)) (o1:(List Int)):Option Bool :=
 (zaJ fuel x1 o1).bind fun v1 =>
 some (decide (0≤v1))
def zco (fuel:Nat) (x1:(List Int)) (x2:(List Int)):Option Bool :=
 (zas fuel x1 x2).bind fun v1 =>
 some (!v1)
mutual
def zcn (fuel:Nat) (x1:(List Bind)) (x2:Form) (g1:(List Int)) (g2:Int) (g9:Bool):Option (List Int) :=
 match fuel with
 | 0=>none
 | fuel+1 =>
 (bif g9 then
 chk (decide ((g1.length+[g2].length)*8≤140737488355328)) <|
 zbG fuel x1 x2 (g1++[g2]) (g2+1)
 else
 zbG fuel x1 x2 g1 (g2+1))
def zbG (fuel:Nat) (x1:(List Bind)) (x2:Form) (g1:(List Int)) (g2:Int):Option (List Int) :=
 match fuel with
 | 0=>none
 | fuel+1 =>
 (bif (decide (g2 < (x1.length:Int))) then
 (idx x1 g2).bind fun v6 =>
 (bif (decide (v6.name=x2.name)) then
 (zco fuel v6.scopes x2.scopes).bind fun v8 =>
 zcn fuel x1 x2 g1 g2 v8
 else
 zcn fuel x1 x2 g1 g2 false)
 else
 some g1)
end
def zeW (fuel:Nat) (x1:(List Bind)) (x2:Form):Option (List Int) :=
 zbG fuel x1 x2 ([]:List Int) 0
def zeX (fuel:Nat) (x1:Int) (o1:(List Bind)) (o2:Int):Option Bool :=
 (idx o1 x1).bind fun v1 =>
 (idx o1 o2).bind fun v2 =>
 (zco fuel v1.scopes v2.scopes).bind fun v3 =>
 some (!v3)
def z7 (fuel:Nat) (x1:(List Int)) (o1:(List Bind)) (o2:Int) (g1:Int):Option Int :=
 match fuel with
 | 0=>none
 | fuel+1 =>
 (bif (decide (g1 < (x1.length:Int))) then
 (idx x1 g1).bind fun v5 =>
 (zeX fuel v5 o1 o2).bind fun v6 =>
 (bif v6 then
 some g1
 else
 z7 fuel x1 o1 o2 (g1+1))
 else
 some (-1))
def zbI (fuel:Nat) (x1:(List Int)) (o1:(List Bind)) (o2:Int):Option Int :=
 z7 fuel x1 o1 o2 0
def zbj (fuel:Nat) (x1:(List Int)) (o1:(List Bind)) (o2:Int):Option Bool :=
 (zbI fuel x1 o1 o2).bind fun v1 =>
 some (decide (0≤v1))
def zcA (fuel:Nat) (x1:(List Bind)) (v1:(List Int)) (g3:Int):Option (Int × Int) :=
 match fuel with
 | 0=>none
 | fuel+1 =>
 (bif (decide (g3 < (v1.length:Int))) then
 (idx v1 g3).bind fun v7 =>
 (zbj fuel v1 x1 v7).bind fun v8 =>
 (bif (!v8) then
 some (v7,1)
 else
 zcA fuel x1 v1 (g3+1))
 else
 some (0,2))
def zf4 (fuel:Nat) (x1:(List Bind)) (x2:Form):Option (Int × Int) :=
 (zeW fuel x1 x2).bind fun v1 =>
 (bif (decide ((v1.length:Int)=0)) then
 some (0,0)
 else
 zcA fuel x1 v1 0)
def zcF (fuel:Nat) (x1:(List Bind)) (x2:Form) (g4:Bool):Option (Int × Int) :=
 match fuel with
 | 0=>none
 | fuel+1 =>
 (bif g4 then
 some (0,0)
 else
 (zf4 fuel x1 x2).bind fun v7 =>
 (bif (decide (v7.2≠1)) then
 some (0,v7.2)
 else
 (idx x1 v7.1).bind fun v9 =>
 some (v9.id,1)))
def zdN (fuel:Nat) (x1:(List Bind)) (x2:Form):Option (Int × Int) :=
 (zcp fuel x1).bind fun v1 =>
 (bif (!v1) then
 zcF fuel x1 x2 true
 else
 (zdo fuel x2).bind fun v3 =>
 zcF fuel x1 x2 (!v3))
def zak (fuel:Nat) (x1:(List Bind)) (x2:Form) (x3:Form) (g6:Bool):Option Bool :=
 match fuel with
 | 0=>none
 | fuel+1 =>
 (bif g6 then
 some false
 else
 (zdN fuel x1 x2).bind fun v9 =>
 (zdN fuel x1 x3).bind fun v10 =>
 (bif (decide (v9.2=1)) then
 (bif (decide (v10.2=1)) then
 (bif (decide (v9.1=v10.1)) then
 some true
 else
 (bif (decide (v9.2=0)) then
 (bif (decide (v10.2=0)) then
 some (decide (x2.name=x3.name))
 else
 some false)
 else
 some false))
 else
 (bif (decide (v9.2=0)) then
 (bif (decide (v10.2=0)) then
 some (decide (x2.name=x3.name))
 else
 some false)
 else
 some false))
 else
 (bif (decide (v9.2=0)) then
 (bif (decide (v10.2=0)) then
 some (decide (x2.name=x3.name))
 else
 some false)
 else
 some false)))
def zcR (fuel:Nat) (x1:(List Bind)) (x2:Form) (x3:Form):Option Bool :=
 (zcp fuel x1).bind fun v1 =>
 (bif (!v1) then
 zak fuel x1 x2 x3 true
 else
 (zdo fuel x2).bind fun v3 =>
 (bif (!v3) then
 zak fuel x1 x2 x3 true
 else
 (zdo fuel x3).bind fun v5 =>
 zak fuel x1 x2 x3 (!v5)))
mutual
def zcg (fuel:Nat) (x1:(List Bind)) (x2:Form) (x3:(List Form)) (x4:Form):Option ((List Hit) × Bool) :=
 match fuel with
 | 0=>none
 | fuel+1 =>
 (bif (decide (x2.kind=1)) then
 (bif (decide (x2.name=(⟨#[95]⟩:ByteArray))) then
 some (([]:List Hit),true)
 else
 (zev fuel x3 x2).bind fun v3 =>
 (bif v3 then
 (zcR fuel x1 x2 x4).bind fun v5 =>
 some (([]:List Hit),v5)
 else
 (zaD fuel x2).bind fun v6 =>
 (zaD fuel x4).bind fun v7 =>
 some ([(Hit.mk v6 0 v7 ([]:List Hit))],true)))
 else
 (bif (decide (x2.kind=2)) then
 (zbV fuel x2 x4).bind fun v9 =>
 some (([]:List Hit),v9)
 else
 (bif (decide (x4.kind≠3)) then
 some (([]:List Hit),false)
 else
 (zd1 fuel x2.kids).bind fun v11 =>
 (bif (decide (v11 < 0)) then
 (bif (decide ((x2.kids.length:Int)≠(x4.kids.length:Int))) then
 some (([]:List Hit),false)
 else
 zby fuel x1 x2 x3 x4 0 ([]:List Hit))
 else
 (bif (decide ((w64 ((x4.kids.length:Int)-(w64 ((x2.kids.length:Int)-2)))) < 0)) then
 some (([]:List Hit),false)
 else
 zbx fuel x1 x2 x3 x4 v11 0 ([]:List Hit))))))
def zby (fuel:Nat) (x1:(List Bind)) (x2:Form) (x3:(List Form)) (x4:Form) (g14:Int) (g15:(List Hit)):Option ((List Hit) × Bool) :=
 match fuel with
 | 0=>none
 | fuel+1 =>
 (bif (decide (g14 < (x2.kids.length:Int))) then
 (idx x2.kids g14).bind fun v19 =>
 (idx x4.kids g14).bind fun v20 =>
 (zbU fuel v19 v20 x1 x3 g15).bind fun v21 =>
 (bif (!v21.1) then
 some (([]:List Hit),false)
 else
 zby fuel x1 x2 x3 x4 (g14+1) v21.2)
 else
 zcz fuel  g15)
def zcz (fuel:Nat) (g23:(List Hit)):Option ((List Hit) × Bool) :=
 match fuel with
 | 0=>none
 | fuel+1 =>
 some (g23,true)
def zbx (fuel:Nat) (x1:(List Bind)) (x2:Form) (x3:(List Form)) (x4:Form) (v11:Int) (g26:Int) (g27:(List Hit)):Option ((List Hit) × Bool) :=
 match fuel with
 | 0=>none
 | fuel+1 =>
 (bif (decide (g26 < (w64 (v11-1)))) then
 (idx x2.kids g26).bind fun v30 =>
 (idx x4.kids g26).bind fun v31 =>
 (zbU fuel v30 v31 x1 x3 g27).bind fun v32 =>
 (bif (!v32.1) then
 some (([]:List Hit),false)
 else
 zbx fuel x1 x2 x3 x4 v11 (w64 (g26+1)) v32.2)
 else
 zb8 fuel x1 x2 x3 x4 v11 g27)
def za3 (fuel:Nat) (x1:(List Bind)) (x2:Form) (x3:(List Form)) (x4:Form) (v11:Int) (g34:(List Hit)) (v37:(List Form) × (List Int)) (g38:(List Hit)) (g39:Int):Option ((List Hit) × Bool) :=
 match fuel with
 | 0=>none
 | fuel+1 =>
 (bif (decide (g39 < (v37.1.length:Int))) then
 (idx v37.1 g39).bind fun v43 =>
 (zaD fuel v43).bind fun v44 =>
 (idx v37.2 g39).bind fun v45 =>
 chk (decide ((g38.length+[(Hit.mk v44 (w64 (v45+1)) (Form.mk 0 (⟨#[]⟩:ByteArray) 0 ([]:List Int) ([]:List Form)) ([]:List Hit))].length)*192≤140737488355328)) <|
 za3 fuel x1 x2 x3 x4 v11 g34 v37 (g38++[(Hit.mk v44 (w64 (v45+1)) (Form.mk 0 (⟨#[]⟩:ByteArray) 0 ([]:List Int) ([]:List Form)) ([]:List Hit))]) (g39+1)
 else
 zb7 fuel x1 x2 x3 x4 v11 g34 g38)
def za2 (fuel:Nat) (x1:(List Bind)) (x2:Form) (x3:(List Form)) (x4:Form) (v11:Int) (g34:(List Hit)) (v49:(List Form)) (g50:Int) (g51:(List Hit)) (v57:(List Hit) × Bool) (g59:Int) (g60:(List Hit)):Option ((List Hit) × Bool) :=
 match fuel with
 | 0=>none
 | fuel+1 =>
 (bif (decide (g59 < (g51.length:Int))) then
 (idx g60 g59).bind fun v63 =>
 (idx v57.1 g59).bind fun v64 =>
 chk (decide ((v63.many.length+[(Hit.mk (Form.mk 0 (⟨#[]⟩:ByteArray) 0 ([]:List Int) ([]:List Form)) 0 (Form.mk 0 (⟨#[]⟩:ByteArray) 0 ([]:List Int) ([]:List Form)) ([]:List Hit))].length)*192≤140737488355328)) <|
 (idx (v63.many++[(Hit.mk (Form.mk 0 (⟨#[]⟩:ByteArray) 0 ([]:List Int) ([]:List Form)) 0 (Form.mk 0 (⟨#[]⟩:ByteArray) 0 ([]:List Int) ([]:List Form)) ([]:List Hit))]) (v63.many.length:Int)).bind fun v66 =>
 (idx g60 g59).bind fun v67 =>
 za2 fuel x1 x2 x3 x4 v11 g34 v49 g50 g51 v57 (w64 (g59+1)) (g60.set g59.toNat (Hit.mk v63.name v63.depth v63.one ((v63.many++[(Hit.mk (Form.mk 0 (⟨#[]⟩:ByteArray) 0 ([]:List Int) ([]:List Form)) 0 (Form.mk 0 (⟨#[]⟩:ByteArray) 0 ([]:List Int) ([]:List Form)) ([]:List Hit))]).set (v63.many.length:Int).toNat v64)))
 else
 zaP fuel x1 x2 x3 x4 v11 g34 v49 (w64 (g50+1)) g60)
def zaP (fuel:Nat) (x1:(List Bind)) (x2:Form) (x3:(List Form)) (x4:Form) (v11:Int) (g34:(List Hit)) (v49:(List Form)) (g50:Int) (g51:(List Hit)):Option ((List Hit) × Bool) :=
 match fuel with
 | 0=>none
 | fuel+1 =>
 (bif (decide (g50 < (v49.length:Int))) then
 (idx v49 g50).bind fun v55 =>
 (idx x2.kids (w64 (v11-1))).bind fun v56 =>
 (zcg fuel x1 v56 x3 v55).bind fun v57 =>
 (bif (!v57.2) then
 some (([]:List Hit),false)
 else
 za2 fuel x1 x2 x3 x4 v11 g34 v49 g50 g51 v57 0 g51)
 else
 zbT fuel x1 x2 x3 x4 v11 g34 g51)
def za4 (fuel:Nat) (x1:(List Bind)) (x2:Form) (x3:(List Form)) (x4:Form) (v11:Int) (g71:Int) (g72:(List Hit)):Option ((List Hit) × Bool) :=
 match fuel with
 | 0=>none
 | fuel+1 =>
 (bif (decide (g71 < (x2.kids.length:Int))) then
 (idx x2.kids g71).bind fun v76 =>
 (idx x4.kids (w64 ((w64 ((w64 ((w64 ((w64 (v11-1))+(w64 ((x4.kids.length:Int)-(w64 ((x2.kids.length:Int)-2))))))+g71))-v11))-1))).bind fun v77 =>
 (zbU fuel v76 v77 x1 x3 g72).bind fun v78 =>
 (bif (!v78.1) then
 some (([]:List Hit),false)
 else
 za4 fuel x1 x2 x3 x4 v11 (g71+1) v78.2)
 else
 some (g72,true))
def zbT (fuel:Nat) (x1:(List Bind)) (x2:Form) (x3:(List Form)) (x4:Form) (v11:Int) (g34:(List Hit)) (g68:(List Hit)):Option ((List Hit) × Bool) :=
 match fuel with
 | 0=>none
 | fuel+1 =>
 chk (decide ((g34.length+g68.length)*192≤140737488355328)) <|
 za4 fuel x1 x2 x3 x4 v11 (w64 (v11+1)) (g34++g68)
def zb7 (fuel:Nat) (x1:(List Bind)) (x2:Form) (x3:(List Form)) (x4:Form) (v11:Int) (g34:(List Hit)) (g47:(List Hit)):Option ((List Hit) × Bool) :=
 match fuel with
 | 0=>none
 | fuel+1 =>
 (sub x4.kids (w64 (v11-1)) (w64 ((w64 (v11-1))+(w64 ((x4.kids.length:Int)-(w64 ((x2.kids.length:Int)-2))))))).bind fun v49 =>
 zaP fuel x1 x2 x3 x4 v11 g34 v49 0 g47
def zb8 (fuel:Nat) (x1:(List Bind)) (x2:Form) (x3:(List Form)) (x4:Form) (v11:Int) (g34:(List Hit)):Option ((List Hit) × Bool) :=
 match fuel with
 | 0=>none
 | fuel+1 =>
 (idx x2.kids (w64 (v11-1))).bind fun v36 =>
 (zeK fuel v36 x3).bind fun v37 =>
 za3 fuel x1 x2 x3 x4 v11 g34 v37 ([]:List Hit) 0
def zbU (fuel:Nat) (x1:Form) (x2:Form) (o1:(List Bind)) (o2:(List Form)) (o3:(List Hit)):Option (Bool × (List Hit)) :=
 match fuel with
 | 0=>none
 | fuel+1 =>
 (zcg fuel o1 x1 o2 x2).bind fun v1 =>
 chk (decide ((o3.length+v1.1.length)*192≤140737488355328)) <|
 some (v1.2,(o3++v1.1))
end
def zF (fuel:Nat) (x1:(List Bind)) (x2:Form) (x3:(List Form)) (x4:Form) (g6:Bool):Option ((List Hit) × Bool) :=
 match fuel with
 | 0=>none
 | fuel+1 =>
 (bif g6 then
 some (([]:List Hit),false)
 else
 (zcg fuel x1 x2 x3 x4).bind fun v9 =>
 (bif (!v9.2) then
 some (([]:List Hit),false)
 else
 some (v9.1,true)))
def zan (fuel:Nat) (x1:(List Bind)) (x2:Form) (x3:(List Form)) (x4:Form):Option ((List Hit) × Bool) :=
 (zcp fuel x1).bind fun v1 =>
 (bif (!v1) then
 zF fuel x1 x2 x3 x4 true
 else
 (zc3 fuel x2 x3).bind fun v3 =>
 (bif (!v3) then
 zF fuel x1 x2 x3 x4 true
 else
 (zcO fuel x4).bind fun v5 =>
 zF fuel x1 x2 x3 x4 (!v5)))
def zbK (fuel:Nat) (g1:Int) (g2:Int) (g3:(List Int)):Option (Int × (List Int)) :=
 match fuel with
 | 0=>none
 | fuel+1 =>
 (bif (decide (g2 < (g3.length:Int))) then
 (idx g3 g2).bind fun v7 =>
 zbK fuel  (w64 (g1+1)) (g2+1) (g3.set g2.toNat g1)
 else
 some (g1,g3))
def zb5 (fuel:Nat) (x1:(List Int)) (x2:Int):Option (Int × (List Int)) :=
 zbK fuel  x2 0 x1
def zbl (fuel:Nat) (g2:Int) (g3:ByteArray):Option ByteArray :=
 match fuel with
 | 0=>none
 | fuel+1 =>
 (bif (decide (0 < g2)) then
 (bcat (strOf [(w8 (w64 (48+(g2.tmod 10))))]) g3).bind fun v6 =>
 zbl fuel  (w64 (g2.tdiv 10)) v6
 else
 (bcat (⟨#[109]⟩:ByteArray) g3).bind fun v7 =>
 some v7)
def za1 (fuel:Nat) (x1:Int):Option ByteArray :=
 (bif (decide (x1≤0)) then
 some (⟨#[109,48]⟩:ByteArray)
 else
 zbl fuel  x1 (⟨#[]⟩:ByteArray))
mutual
def zax (fuel:Nat) (x1:(List Form)) (x2:Int):Option (Int × (List Form)) :=
 match fuel with
 | 0=>none
 | fuel+1 =>
 zbu fuel  x2 0 x1
def zbu (fuel:Nat) (g1:Int) (g2:Int) (g3:(List Form)):Option (Int × (List Form)) :=
 match fuel with
 | 0=>none
 | fuel+1 =>
 (bif (decide (g2 < (g3.length:Int))) then
 (idx g3 g2).bind fun v6 =>
 (za1 fuel (w64 (g1+1))).bind fun v7 =>
 (idx (g3.set g2.toNat (Form.mk g1 v6.name v6.n v6.scopes v6.kids)) g2).bind fun v8 =>
 (idx ((g3.set g2.toNat (Form.mk g1 v6.name v6.n v6.scopes v6.kids)).set g2.toNat (Form.mk v8.kind v7 v8.n v8.scopes v8.kids)) g2).bind fun v9 =>
 (idx (((g3.set g2.toNat (Form.mk g1 v6.name v6.n v6.scopes v6.kids)).set g2.toNat (Form.mk v8.kind v7 v8.n v8.scopes v8.kids)).set g2.toNat (Form.mk v9.kind v9.name (w64 ((w64 (g1+1))+1)) v9.scopes v9.kids)) g2).bind fun v10 =>
 (zb5 fuel v10.scopes (w64 ((w64 ((w64 (g1+1))+1))+1))).bind fun v11 =>
 (idx ((((g3.set g2.toNat (Form.mk g1 v6.name v6.n v6.scopes v6.kids)).set g2.toNat (Form.mk v8.kind v7 v8.n v8.scopes v8.kids)).set g2.toNat (Form.mk v9.kind v9.name (w64 ((w64 (g1+1))+1)) v9.scopes v9.kids)).set g2.toNat (Form.mk v10.kind v10.name v10.n v11.2 v10.kids)) g2).bind fun v12 =>
 (zax fuel v12.kids v11.1).bind fun v13 =>
 zbu fuel  v13.1 (w64 (g2+1)) (((((g3.set g2.toNat (Form.mk g1 v6.name v6.n v6.scopes v6.kids)).set g2.toNat (Form.mk v8.kind v7 v8.n v8.scopes v8.kids)).set g2.toNat (Form.mk v9.kind v9.name (w64 ((w64 (g1+1))+1)) v9.scopes v9.kids)).set g2.toNat (Form.mk v10.kind v10.name v10.n v11.2 v10.kids)).set g2.toNat (Form.mk v12.kind v12.name v12.n v12.scopes v13.2))
 else
 some (g1,g3))
end
def zdH (fuel:Nat) (x1:Form) (x2:Int):Option (Int × (List Int) × (List Form)) :=
 (zb5 fuel x1.scopes x2).bind fun v1 =>
 (zax fuel x1.kids v1.1).bind fun v2 =>
 some (v2.1,v1.2,v2.2)
mutual
def zbS (fuel:Nat) (x1:(List Hit)) (x2:Int):Option (Int × (List Hit)) :=
 match fuel with
 | 0=>none
 | fuel+1 =>
 zbL fuel  x2 0 x1
def zbL (fuel:Nat) (g1:Int) (g2:Int) (g3:(List Hit)):Option (Int × (List Hit)) :=
 match fuel with
 | 0=>none
 | fuel+1 =>
 (bif (decide (g2 < (g3.length:Int))) then
 (idx g3 g2).bind fun v6 =>
 (za1 fuel (w64 (g1+1))).bind fun v7 =>
 (idx (g3.set g2.toNat (Hit.mk (Form.mk g1 v6.name.name v6.name.n v6.name.scopes v6.name.kids) v6.depth v6.one v6.many)) g2).bind fun v8 =>
 (idx ((g3.set g2.toNat (Hit.mk (Form.mk g1 v6.name.name v6.name.n v6.name.scopes v6.name.kids) v6.depth v6.one v6.many)).set g2.toNat (Hit.mk (Form.mk v8.name.kind v7 v8.name.n v8.name.scopes v8.name.kids) v8.depth v8.one v8.many)) g2).bind fun v9 =>
 (idx (((g3.set g2.toNat (Hit.mk (Form.mk g1 v6.name.name v6.name.n v6.name.scopes v6.name.kids) v6.depth v6.one v6.many)).set g2.toNat (Hit.mk (Form.mk v8.name.kind v7 v8.name.n v8.name.scopes v8.name.kids) v8.depth v8.one v8.many)).set g2.toNat (Hit.mk (Form.mk v9.name.kind v9.name.name (w64 ((w64 (g1+1))+1)) v9.name.scopes v9.name.kids) v9.depth v9.one v9.many)) g2).bind fun v10 =>
 (zb5 fuel v10.name.scopes (w64 ((w64 ((w64 (g1+1))+1))+1))).bind fun v11 =>
 (idx ((((g3.set g2.toNat (Hit.mk (Form.mk g1 v6.name.name v6.name.n v6.name.scopes v6.name.kids) v6.depth v6.one v6.many)).set g2.toNat (Hit.mk (Form.mk v8.name.kind v7 v8.name.n v8.name.scopes v8.name.kids) v8.depth v8.one v8.many)).set g2.toNat (Hit.mk (Form.mk v9.name.kind v9.name.name (w64 ((w64 (g1+1))+1)) v9.name.scopes v9.name.kids) v9.depth v9.one v9.many)).set g2.toNat (Hit.mk (Form.mk v10.name.kind v10.name.name v10.name.n v11.2 v10.name.kids) v10.depth v10.one v10.many)) g2).bind fun v12 =>
 (zax fuel v12.name.kids v11.1).bind fun v13 =>
 (idx (((((g3.set g2.toNat (Hit.mk (Form.mk g1 v6.name.name v6.name.n v6.name.scopes v6.name.kids) v6.depth v6.one v6.many)).set g2.toNat (Hit.mk (Form.mk v8.name.kind v7 v8.name.n v8.name.scopes v8.name.kids) v8.depth v8.one v8.many)).set g2.toNat (Hit.mk (Form.mk v9.name.kind v9.name.name (w64 ((w64 (g1+1))+1)) v9.name.scopes v9.name.kids) v9.depth v9.one v9.many)).set g2.toNat (Hit.mk (Form.mk v10.name.kind v10.name.name v10.name.n v11.2 v10.name.kids) v10.depth v10.one v10.many)).set g2.toNat (Hit.mk (Form.mk v12.name.kind v12.name.name v12.name.n v12.name.scopes v13.2) v12.depth v12.one v12.many)) g2).bind fun v14 =>
 (idx ((((((g3.set g2.toNat (Hit.mk (Form.mk g1 v6.name.name v6.name.n v6.name.scopes v6.name.kids) v6.depth v6.one v6.many)).set g2.toNat (Hit.mk (Form.mk v8.name.kind v7 v8.name.n v8.name.scopes v8.name.kids) v8.depth v8.one v8.many)).set g2.toNat (Hit.mk (Form.mk v9.name.kind v9.name.name (w64 ((w64 (g1+1))+1)) v9.name.scopes v9.name.kids) v9.depth v9.one v9.many)).set g2.toNat (Hit.mk (Form.mk v10.name.kind v10.name.name v10.name.n v11.2 v10.name.kids) v10.depth v10.one v10.many)).set g2.toNat (Hit.mk (Form.mk v12.name.kind v12.name.name v12.name.n v12.name.scopes v13.2) v12.depth v12.one v12.many)).set g2.toNat (Hit.mk v14.name v13.1 v14.one v14.many)) g2).bind fun v15 =>
 (za1 fuel (w64 ((w64 (v13.1+1))+1))).bind fun v16 =>
 (idx (((((((g3.set g2.toNat (Hit.mk (Form.mk g1 v6.name.name v6.name.n v6.name.scopes v6.name.kids) v6.depth v6.one v6.many)).set g2.toNat (Hit.mk (Form.mk v8.name.kind v7 v8.name.n v8.name.scopes v8.name.kids) v8.depth v8.one v8.many)).set g2.toNat (Hit.mk (Form.mk v9.name.kind v9.name.name (w64 ((w64 (g1+1))+1)) v9.name.scopes v9.name.kids) v9.depth v9.one v9.many)).set g2.toNat (Hit.mk (Form.mk v10.name.kind v10.name.name v10.name.n v11.2 v10.name.kids) v10.depth v10.one v10.many)).set g2.toNat (Hit.mk (Form.mk v12.name.kind v12.name.name v12.name.n v12.name.scopes v13.2) v12.depth v12.one v12.many)).set g2.toNat (Hit.mk v14.name v13.1 v14.one v14.many)).set g2.toNat (Hit.mk v15.name v15.depth (Form.mk (w64 (v13.1+1)) v15.one.name v15.one.n v15.one.scopes v15.one.kids) v15.many)) g2).bind fun v17 =>
 (idx ((((((((g3.set g2.toNat (Hit.mk (Form.mk g1 v6.name.name v6.name.n v6.name.scopes v6.name.kids) v6.depth v6.one v6.many)).set g2.toNat (Hit.mk (Form.mk v8.name.kind v7 v8.name.n v8.name.scopes v8.name.kids) v8.depth v8.one v8.many)).set g2.toNat (Hit.mk (Form.mk v9.name.kind v9.name.name (w64 ((w64 (g1+1))+1)) v9.name.scopes v9.name.kids) v9.depth v9.one v9.many)).set g2.toNat (Hit.mk (Form.mk v10.name.kind v10.name.name v10.name.n v11.2 v10.name.kids) v10.depth v10.one v10.many)).set g2.toNat (Hit.mk (Form.mk v12.name.kind v12.name.name v12.name.n v12.name.scopes v13.2) v12.depth v12.one v12.many)).set g2.toNat (Hit.mk v14.name v13.1 v14.one v14.many)).set g2.toNat (Hit.mk v15.name v15.depth (Form.mk (w64 (v13.1+1)) v15.one.name v15.one.n v15.one.scopes v15.one.kids) v15.many)).set g2.toNat (Hit.mk v17.name v17.depth (Form.mk v17.one.kind v16 v17.one.n v17.one.scopes v17.one.kids) v17.many)) g2).bind fun v18 =>
 (idx (((((((((g3.set g2.toNat (Hit.mk (Form.mk g1 v6.name.name v6.name.n v6.name.scopes v6.name.kids) v6.depth v6.one v6.many)).set g2.toNat (Hit.mk (Form.mk v8.name.kind v7 v8.name.n v8.name.scopes v8.name.kids) v8.depth v8.one v8.many)).set g2.toNat (Hit.mk (Form.mk v9.name.kind v9.name.name (w64 ((w64 (g1+1))+1)) v9.name.scopes v9.name.kids) v9.depth v9.one v9.many)).set g2.toNat (Hit.mk (Form.mk v10.name.kind v10.name.name v10.name.n v11.2 v10.name.kids) v10.depth v10.one v10.many)).set g2.toNat (Hit.mk (Form.mk v12.name.kind v12.name.name v12.name.n v12.name.scopes v13.2) v12.depth v12.one v12.many)).set g2.toNat (Hit.mk v14.name v13.1 v14.one v14.many)).set g2.toNat (Hit.mk v15.name v15.depth (Form.mk (w64 (v13.1+1)) v15.one.name v15.one.n v15.one.scopes v15.one.kids) v15.many)).set g2.toNat (Hit.mk v17.name v17.depth (Form.mk v17.one.kind v16 v17.one.n v17.one.scopes v17.one.kids) v17.many)).set g2.toNat (Hit.mk v18.name v18.depth (Form.mk v18.one.kind v18.one.name (w64 ((w64 ((w64 (v13.1+1))+1))+1)) v18.one.scopes v18.one.kids) v18.many)) g2).bind fun v19 =>
 (zb5 fuel v19.one.scopes (w64 ((w64 ((w64 ((w64 (v13.1+1))+1))+1))+1))).bind fun v20 =>
 (idx ((((((((((g3.set g2.toNat (Hit.mk (Form.mk g1 v6.name.name v6.name.n v6.name.scopes v6.name.kids) v6.depth v6.one v6.many)).set g2.toNat (Hit.mk (Form.mk v8.name.kind v7 v8.name.n v8.name.scopes v8.name.kids) v8.depth v8.one v8.many)).set g2.toNat (Hit.mk (Form.mk v9.name.kind v9.name.name (w64 ((w64 (g1+1))+1)) v9.name.scopes v9.name.kids) v9.depth v9.one v9.many)).set g2.toNat (Hit.mk (Form.mk v10.name.kind v10.name.name v10.name.n v11.2 v10.name.kids) v10.depth v10.one v10.many)).set g2.toNat (Hit.mk (Form.mk v12.name.kind v12.name.name v12.name.n v12.name.scopes v13.2) v12.depth v12.one v12.many)).set g2.toNat (Hit.mk v14.name v13.1 v14.one v14.many)).set g2.toNat (Hit.mk v15.name v15.depth (Form.mk (w64 (v13.1+1)) v15.one.name v15.one.n v15.one.scopes v15.one.kids) v15.many)).set g2.toNat (Hit.mk v17.name v17.depth (Form.mk v17.one.kind v16 v17.one.n v17.one.scopes v17.one.kids) v17.many)).set g2.toNat (Hit.mk v18.name v18.depth (Form.mk v18.one.kind v18.one.name (w64 ((w64 ((w64 (v13.1+1))+1))+1)) v18.one.scopes v18.one.kids) v18.many)).set g2.toNat (Hit.mk v19.name v19.depth (Form.mk v19.one.kind v19.one.name v19.one.n v20.2 v19.one.kids) v19.many)) g2).bind fun v21 =>
 (zax fuel v21.one.kids v20.1).bind fun v22 =>
 (idx (((((((((((g3.set g2.toNat (Hit.mk (Form.mk g1 v6.name.name v6.name.n v6.name.scopes v6.name.kids) v6.depth v6.one v6.many)).set g2.toNat (Hit.mk (Form.mk v8.name.kind v7 v8.name.n v8.name.scopes v8.name.kids) v8.depth v8.one v8.many)).set g2.toNat (Hit.mk (Form.mk v9.name.kind v9.name.name (w64 ((w64 (g1+1))+1)) v9.name.scopes v9.name.kids) v9.depth v9.one v9.many)).set g2.toNat (Hit.mk (Form.mk v10.name.kind v10.name.name v10.name.n v11.2 v10.name.kids) v10.depth v10.one v10.many)).set g2.toNat (Hit.mk (Form.mk v12.name.kind v12.name.name v12.name.n v12.name.scopes v13.2) v12.depth v12.one v12.many)).set g2.toNat (Hit.mk v14.name v13.1 v14.one v14.many)).set g2.toNat (Hit.mk v15.name v15.depth (Form.mk (w64 (v13.1+1)) v15.one.name v15.one.n v15.one.scopes v15.one.kids) v15.many)).set g2.toNat (Hit.mk v17.name v17.depth (Form.mk v17.one.kind v16 v17.one.n v17.one.scopes v17.one.kids) v17.many)).set g2.toNat (Hit.mk v18.name v18.depth (Form.mk v18.one.kind v18.one.name (w64 ((w64 ((w64 (v13.1+1))+1))+1)) v18.one.scopes v18.one.kids) v18.many)).set g2.toNat (Hit.mk v19.name v19.depth (Form.mk v19.one.kind v19.one.name v19.one.n v20.2 v19.one.kids) v19.many)).set g2.toNat (Hit.mk v21.name v21.depth (Form.mk v21.one.kind v21.one.name v21.one.n v21.one.scopes v22.2) v21.many)) g2).bind fun v23 =>
 (zbS fuel v23.many v22.1).bind fun v24 =>
 zbL fuel  v24.1 (w64 (g2+1)) ((((((((((((g3.set g2.toNat (Hit.mk (Form.mk g1 v6.name.name v6.name.n v6.name.scopes v6.name.kids) v6.depth v6.one v6.many)).set g2.toNat (Hit.mk (Form.mk v8.name.kind v7 v8.name.n v8.name.scopes v8.name.kids) v8.depth v8.one v8.many)).set g2.toNat (Hit.mk (Form.mk v9.name.kind v9.name.name (w64 ((w64 (g1+1))+1)) v9.name.scopes v9.name.kids) v9.depth v9.one v9.many)).set g2.toNat (Hit.mk (Form.mk v10.name.kind v10.name.name v10.name.n v11.2 v10.name.kids) v10.depth v10.one v10.many)).set g2.toNat (Hit.mk (Form.mk v12.name.kind v12.name.name v12.name.n v12.name.scopes v13.2) v12.depth v12.one v12.many)).set g2.toNat (Hit.mk v14.name v13.1 v14.one v14.many)).set g2.toNat (Hit.mk v15.name v15.depth (Form.mk (w64 (v13.1+1)) v15.one.name v15.one.n v15.one.scopes v15.one.kids) v15.many)).set g2.toNat (Hit.mk v17.name v17.depth (Form.mk v17.one.kind v16 v17.one.n v17.one.scopes v17.one.kids) v17.many)).set g2.toNat (Hit.mk v18.name v18.depth (Form.mk v18.one.kind v18.one.name (w64 ((w64 ((w64 (v13.1+1))+1))+1)) v18.one.scopes v18.one.kids) v18.many)).set g2.toNat (Hit.mk v19.name v19.depth (Form.mk v19.one.kind v19.one.name v19.one.n v20.2 v19.one.kids) v19.many)).set g2.toNat (Hit.mk v21.name v21.depth (Form.mk v21.one.kind v21.one.name v21.one.n v21.one.scopes v22.2) v21.many)).set g2.toNat (Hit.mk v23.name v23.depth v23.one v24.2))
 else
 some (g1,g3))
end
def zbM (fuel:Nat) (x1:(List Int)) (g1:Int) (g2:Int):Option Int :=
 match fuel with
 | 0=>none
 | fuel+1 =>
 (bif (decide (g2 < (x1.length:Int))) then
 (idx x1 g2).bind fun v6 =>
 (bif (decide (v6≠g1)) then
 some (-1)
 else
 zbM fuel x1 (w64 (g1+1)) (g2+1))
 else
 some g1)
def zcy (fuel:Nat) (x1:(List Int)) (x2:Int):Option Int :=
 zbM fuel x1 x2 0
end Go.Abs
