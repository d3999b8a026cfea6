/- A part of the proof: what the functions that the law calls answer, as pure values. -/
import Derived.Test.YtpdacpnncmemgaaGreatKe05290cf3b33
import Derived.Test.YtpdacpnncmemgaaGreatKa647db9ee9e6
import Derived.Test.YtpdacpnncmemgaaGreatK57e2d81719e9
set_option linter.unusedSimpArgs false
set_option linter.unusedVariables false
set_option maxHeartbeats 4000000
namespace Go.Abs
mutual
def zcJ (fuel:Nat) (x1:(List Bind)) (x2:Form) (x3:(List Form)) (x4:Form):Option ((List Hit) × Bool) :=
 match fuel with
 | 0=>none
 | fuel+1 =>
 (bif (decide (x2.kind=1)) then
 (bif (decide (x2.name=(⟨#[95]⟩:ByteArray))) then
 some (([]:List Hit),true)
 else
 (zff fuel x3 x2).bind fun v3 =>
 (bif v3 then
 (zc1 fuel x1 x2 x4).bind fun v5 =>
 some (([]:List Hit),v5)
 else
 (zaN fuel x2).bind fun v6 =>
 (zaN fuel x4).bind fun v7 =>
 some ([(Hit.mk v6 0 v7 ([]:List Hit))],true)))
 else
 (bif (decide (x2.kind=2)) then
 (zap fuel x2 x4).bind fun v9 =>
 some (([]:List Hit),v9)
 else
 (bif (decide (x4.kind≠3)) then
 some (([]:List Hit),false)
 else
 (zd9 fuel x2.kids).bind fun v11 =>
 (bif (decide (v11 < 0)) then
 (bif (decide ((x2.kids.length:Int)≠(x4.kids.length:Int))) then
 some (([]:List Hit),false)
 else
 zcI fuel x1 x2 x3 x4 0 ([]:List Hit))
 else
 (bif (decide ((w64 ((x4.kids.length:Int)-(w64 ((x2.kids.length:Int)-2)))) < 0)) then
 some (([]:List Hit),false)
 else
 zcH fuel x1 x2 x3 x4 v11 0 ([]:List Hit))))))
def zcI (fuel:Nat) (x1:(List Bind)) (x2:Form) (x3:(List Form)) (x4:Form) (g14:Int) (g15:(List Hit)):Option ((List Hit) × Bool) :=
 match fuel with
 | 0=>none
 | fuel+1 =>
 (bif (decide (g14 < (x2.kids.length:Int))) then
 (idx x2.kids g14).bind fun v19 =>
 (idx x4.kids g14).bind fun v20 =>
 (zdb fuel v19 v20 x1 x3 g15).bind fun v21 =>
 (bif (!v21.1) then
 some (([]:List Hit),false)
 else
 zcI fuel x1 x2 x3 x4 (g14+1) v21.2)
 else
 zfd fuel  g15)
def zfd (fuel:Nat) (g23:(List Hit)):Option ((List Hit) × Bool) :=
 match fuel with
 | 0=>none
 | fuel+1 =>
 some (g23,true)
def zcH (fuel:Nat) (x1:(List Bind)) (x2:Form) (x3:(List Form)) (x4:Form) (v11:Int) (g26:Int) (g27:(List Hit)):Option ((List Hit) × Bool) :=
 match fuel with
 | 0=>none
 | fuel+1 =>
 (bif (decide (g26 < (w64 (v11-1)))) then
 (idx x2.kids g26).bind fun v30 =>
 (idx x4.kids g26).bind fun v31 =>
 (zdb fuel v30 v31 x1 x3 g27).bind fun v32 =>
 (bif (!v32.1) then
 some (([]:List Hit),false)
 else
 zcH fuel x1 x2 x3 x4 v11 (w64 (g26+1)) v32.2)
 else
 zdX fuel x1 x2 x3 x4 v11 g27)
def zcf (fuel:Nat) (x1:(List Bind)) (x2:Form) (x3:(List Form)) (x4:Form) (v11:Int) (g34:(List Hit)) (v37:(List Form) × (List Int)) (g38:(List Hit)) (g39:Int):Option ((List Hit) × Bool) :=
 match fuel with
 | 0=>none
 | fuel+1 =>
 (bif (decide (g39 < (v37.1.length:Int))) then
 (idx v37.1 g39).bind fun v43 =>
 (zaN fuel v43).bind fun v44 =>
 (idx v37.2 g39).bind fun v45 =>
 chk (decide ((g38.length+[(Hit.mk v44 (w64 (v45+1)) (Form.mk 0 (⟨#[]⟩:ByteArray) 0 ([]:List Int) ([]:List Form)) ([]:List Hit))].length)*192≤140737488355328)) <|
 zcf fuel x1 x2 x3 x4 v11 g34 v37 (g38++[(Hit.mk v44 (w64 (v45+1)) (Form.mk 0 (⟨#[]⟩:ByteArray) 0 ([]:List Int) ([]:List Form)) ([]:List Hit))]) (g39+1)
 else
 zdW fuel x1 x2 x3 x4 v11 g34 g38)
def zce (fuel:Nat) (x1:(List Bind)) (x2:Form) (x3:(List Form)) (x4:Form) (v11:Int) (g34:(List Hit)) (v49:(List Form)) (g50:Int) (g51:(List Hit)) (v57:(List Hit) × Bool) (g59:Int) (g60:(List Hit)):Option ((List Hit) × Bool) :=
 match fuel with
 | 0=>none
 | fuel+1 =>
 (bif (decide (g59 < (g51.length:Int))) then
 (idx g60 g59).bind fun v63 =>
 (idx v57.1 g59).bind fun v64 =>
 chk (decide ((v63.many.length+[(Hit.mk (Form.mk 0 (⟨#[]⟩:ByteArray) 0 ([]:List Int) ([]:List Form)) 0 (Form.mk 0 (⟨#[]⟩:ByteArray) 0 ([]:List Int) ([]:List Form)) ([]:List Hit))].length)*192≤140737488355328)) <|
 (idx (v63.many++[(Hit.mk (Form.mk 0 (⟨#[]⟩:ByteArray) 0 ([]:List Int) ([]:List Form)) 0 (Form.mk 0 (⟨#[]⟩:ByteArray) 0 ([]:List Int) ([]:List Form)) ([]:List Hit))]) (v63.many.length:Int)).bind fun v66 =>
 (idx g60 g59).bind fun v67 =>
 zce fuel x1 x2 x3 x4 v11 g34 v49 g50 g51 v57 (w64 (g59+1)) (g60.set g59.toNat (Hit.mk v63.name v63.depth v63.one ((v63.many++[(Hit.mk (Form.mk 0 (⟨#[]⟩:ByteArray) 0 ([]:List Int) ([]:List Form)) 0 (Form.mk 0 (⟨#[]⟩:ByteArray) 0 ([]:List Int) ([]:List Form)) ([]:List Hit))]).set (v63.many.length:Int).toNat v64)))
 else
 zbV fuel x1 x2 x3 x4 v11 g34 v49 (w64 (g50+1)) g60)
def zbV (fuel:Nat) (x1:(List Bind)) (x2:Form) (x3:(List Form)) (x4:Form) (v11:Int) (g34:(List Hit)) (v49:(List Form)) (g50:Int) (g51:(List Hit)):Option ((List Hit) × Bool) :=
 match fuel with
 | 0=>none
 | fuel+1 =>
 (bif (decide (g50 < (v49.length:Int))) then
 (idx v49 g50).bind fun v55 =>
 (idx x2.kids (w64 (v11-1))).bind fun v56 =>
 (zcJ fuel x1 v56 x3 v55).bind fun v57 =>
 (bif (!v57.2) then
 some (([]:List Hit),false)
 else
 zce fuel x1 x2 x3 x4 v11 g34 v49 g50 g51 v57 0 g51)
 else
 zdn fuel x1 x2 x3 x4 v11 g34 g51)
def zcn (fuel:Nat) (x1:(List Bind)) (x2:Form) (x3:(List Form)) (x4:Form) (v11:Int) (g71:Int) (g72:(List Hit)):Option ((List Hit) × Bool) :=
 match fuel with
 | 0=>none
 | fuel+1 =>
 (bif (decide (g71 < (x2.kids.length:Int))) then
 (idx x2.kids g71).bind fun v76 =>
 (idx x4.kids (w64 ((w64 ((w64 ((w64 ((w64 (v11-1))+(w64 ((x4.kids.length:Int)-(w64 ((x2.kids.length:Int)-2))))))+g71))-v11))-1))).bind fun v77 =>
 (zdb fuel v76 v77 x1 x3 g72).bind fun v78 =>
 (bif (!v78.1) then
 some (([]:List Hit),false)
 else
 zcn fuel x1 x2 x3 x4 v11 (g71+1) v78.2)
 else
 some (g72,true))
def zdn (fuel:Nat) (x1:(List Bind)) (x2:Form) (x3:(List Form)) (x4:Form) (v11:Int) (g34:(List Hit)) (g68:(List Hit)):Option ((List Hit) × Bool) :=
 match fuel with
 | 0=>none
 | fuel+1 =>
 chk (decide ((g34.length+g68.length)*192≤140737488355328)) <|
 zcn fuel x1 x2 x3 x4 v11 (w64 (v11+1)) (g34++g68)
def zdW (fuel:Nat) (x1:(List Bind)) (x2:Form) (x3:(List Form)) (x4:Form) (v11:Int) (g34:(List Hit)) (g47:(List Hit)):Option ((List Hit) × Bool) :=
 match fuel with
 | 0=>none
 | fuel+1 =>
 (sub x4.kids (w64 (v11-1)) (w64 ((w64 (v11-1))+(w64 ((x4.kids.length:Int)-(w64 ((x2.kids.length:Int)-2))))))).bind fun v49 =>
 zbV fuel x1 x2 x3 x4 v11 g34 v49 0 g47
def zdX (fuel:Nat) (x1:(List Bind)) (x2:Form) (x3:(List Form)) (x4:Form) (v11:Int) (g34:(List Hit)):Option ((List Hit) × Bool) :=
 match fuel with
 | 0=>none
 | fuel+1 =>
 (idx x2.kids (w64 (v11-1))).bind fun v36 =>
 (zd7 fuel v36 x3).bind fun v37 =>
 zcf fuel x1 x2 x3 x4 v11 g34 v37 ([]:List Hit) 0
def zdb (fuel:Nat) (x1:Form) (x2:Form) (o1:(List Bind)) (o2:(List Form)) (o3:(List Hit)):Option (Bool × (List Hit)) :=
 match fuel with
 | 0=>none
 | fuel+1 =>
 (zcJ fuel o1 x1 o2 x2).bind fun v1 =>
 chk (decide ((o3.length+v1.1.length)*192≤140737488355328)) <|
 some (v1.2,(o3++v1.1))
end
mutual
def zcM (fuel:Nat) (x1:Form):Option Int :=
 match fuel with
 | 0=>none
 | fuel+1 =>
 zbT fuel x1 1 0
def zbT (fuel:Nat) (x1:Form) (g1:Int) (g2:Int):Option Int :=
 match fuel with
 | 0=>none
 | fuel+1 =>
 (bif (decide (g2 < (x1.kids.length:Int))) then
 (idx x1.kids g2).bind fun v6 =>
 (zcM fuel v6).bind fun v7 =>
 zbT fuel x1 (w64 (g1+v7)) (g2+1)
 else
 some g1)
end
mutual
def zb2 (fuel:Nat) (x1:(List Bind)) (x2:(List Rule)) (x3:(List Form)) (x4:Form) (g9:Int):Option (Int × Bool) :=
 match fuel with
 | 0=>none
 | fuel+1 =>
 (bif (decide (g9 < (x2.length:Int))) then
 (idx x2 g9).bind fun v13 =>
 (zcJ fuel x1 v13.pattern x3 x4).bind fun v14 =>
 (bif v14.2 then
 some (g9,true)
 else
 zb2 fuel x1 x2 x3 x4 (g9+1))
 else
 some (0,false))
def zbi (fuel:Nat) (x1:(List Bind)) (x2:(List Rule)) (x3:(List Form)) (x4:Form) (g6:Bool):Option (Int × Bool) :=
 match fuel with
 | 0=>none
 | fuel+1 =>
 (bif g6 then
 some (0,false)
 else
 zb2 fuel x1 x2 x3 x4 0)
end
def zeD (fuel:Nat) (x1:(List Bind)) (x2:(List Rule)) (x3:(List Form)) (x4:Form):Option (Int × Bool) :=
 (zcA fuel x1).bind fun v1 =>
 (bif (!v1) then
 zbi fuel x1 x2 x3 x4 true
 else
 (zeJ fuel x2 x3).bind fun v3 =>
 (bif (!v3) then
 zbi fuel x1 x2 x3 x4 true
 else
 (zbL fuel x4).bind fun v5 =>
 zbi fuel x1 x2 x3 x4 (!v5)))
def zcY (fuel:Nat) (x1:(List Int)):Option ((List Bind) × (List Rule) × (List Form) × Form) :=
 (zfj fuel x1).bind fun v1 =>
 some (([]:List Bind),v1.2.1,v1.1,v1.2.2)
def zg5 (fuel:Nat) (x1:Form) (o1:Bool) (o2:Hit):Option Bool :=
 (bif o1 then
 some true
 else
 (zap fuel x1 o2.name).bind fun v2 =>
 some v2)
mutual
def zaW (fuel:Nat) (x1:Form) (o1:Bool) (o2:Hit):Option Bool :=
 match fuel with
 | 0=>none
 | fuel+1 =>
 (zg5 fuel x1 o1 o2).bind fun v1 =>
 zaB fuel x1 o2 0 v1
def zaB (fuel:Nat) (x1:Form) (o2:Hit) (g2:Int) (g3:Bool):Option Bool :=
 match fuel with
 | 0=>none
 | fuel+1 =>
 (bif (decide (g2 < (x1.kids.length:Int))) then
 (idx x1.kids g2).bind fun v7 =>
 (zaW fuel v7 g3 o2).bind fun v8 =>
 zaB fuel x1 o2 (g2+1) v8
 else
 some g3)
end
def zeW (fuel:Nat) (x1:(List Hit)):Option (List Hit) :=
 chk (decide ((([]:List Hit).length+x1.length)*192≤140737488355328)) <|
 some (([]:List Hit)++x1)
mutual
def zdQ (fuel:Nat) (x1:Form) (x2:(List Hit)):Option (Form × Bool) :=
 match fuel with
 | 0=>none
 | fuel+1 =>
 (bif (decide (x1.kind=1)) then
 (zfg fuel x2 x1).bind fun v2 =>
 (bif (decide (0≤v2)) then
 (idx x2 v2).bind fun v4 =>
 (zaN fuel v4.one).bind fun v5 =>
 some (v5,true)
 else
 (zaN fuel x1).bind fun v6 =>
 some (v6,true))
 else
 zbW fuel x1 x2 0 x1.kind (⟨#[]⟩:ByteArray) x1.n ([]:List Int) ([]:List Form) 0)
def zdd (fuel:Nat) (x1:Form) (x2:(List Hit)) (g7:Int) (g8:Int) (g9:ByteArray) (g10:Int) (g11:(List Int)) (g12:(List Form)) (g13:Int) (v17:Form) (g28:Int) (g29:(List Int)) (v34:Hit) (g42:Bool):Option (Form × Bool) :=
 match fuel with
 | 0=>none
 | fuel+1 =>
 (bif g42 then
 some ((Form.mk 0 (⟨#[]⟩:ByteArray) 0 ([]:List Int) ([]:List Form)),false)
 else
 zcb fuel x1 x2 g7 g8 g9 g10 g11 g12 g13 v17 (g28+1) (g29++[g28]) (v34.many.length:Int))
def zde (fuel:Nat) (x1:Form) (x2:(List Hit)) (g7:Int) (g8:Int) (g9:ByteArray) (g10:Int) (g11:(List Int)) (g12:(List Form)) (g13:Int) (v17:Form) (g28:Int) (g29:(List Int)) (g30:Int) (v34:Hit) (g37:Bool):Option (Form × Bool) :=
 match fuel with
 | 0=>none
 | fuel+1 =>
 (bif g37 then
 zcb fuel x1 x2 g7 g8 g9 g10 g11 g12 g13 v17 (g28+1) g29 g30
 else
 chk (decide ((g29.length+[g28].length)*8≤140737488355328)) <|
 (bif (decide (0≤g30)) then
 zdd fuel x1 x2 g7 g8 g9 g10 g11 g12 g13 v17 g28 g29 v34 (decide (g30≠(v34.many.length:Int)))
 else
 zdd fuel x1 x2 g7 g8 g9 g10 g11 g12 g13 v17 g28 g29 v34 false))
def zcb (fuel:Nat) (x1:Form) (x2:(List Hit)) (g7:Int) (g8:Int) (g9:ByteArray) (g10:Int) (g11:(List Int)) (g12:(List Form)) (g13:Int) (v17:Form) (g28:Int) (g29:(List Int)) (g30:Int):Option (Form × Bool) :=
 match fuel with
 | 0=>none
 | fuel+1 =>
 (bif (decide (g28 < (x2.length:Int))) then
 (idx x2 g28).bind fun v34 =>
 (zaW fuel v17 false v34).bind fun v35 =>
 (bif (!v35) then
 zde fuel x1 x2 g7 g8 g9 g10 g11 g12 g13 v17 g28 g29 g30 v34 true
 else
 zde fuel x1 x2 g7 g8 g9 g10 g11 g12 g13 v17 g28 g29 g30 v34 (decide (v34.depth=0)))
 else
 zeL fuel x1 x2 g7 g8 g9 g10 g11 g12 g13 v17 g30 g29)
def zcD (fuel:Nat) (x1:Form) (x2:(List Hit)) (g7:Int) (v17:Form) (g45:Int) (g46:(List Int)) (g48:Int) (g49:Int) (g50:ByteArray) (g51:Int) (g52:(List Int)) (g53:(List Form)) (g54:Int) (g58:Int) (g59:(List Hit)):Option (Form × Bool) :=
 match fuel with
 | 0=>none
 | fuel+1 =>
 (bif (decide (g58 < (g46.length:Int))) then
 (idx g46 g58).bind fun v63 =>
 (idx x2 v63).bind fun v64 =>
 (idx v64.many g48).bind fun v65 =>
 (idx g59 v63).bind fun v66 =>
 zcD fuel x1 x2 g7 v17 g45 g46 g48 g49 g50 g51 g52 g53 g54 (g58+1) (g59.set v63.toNat v65)
 else
 zeK fuel x1 x2 g7 v17 g45 g46 g48 g49 g50 g51 g52 g53 g54 g59)
def zeK (fuel:Nat) (x1:Form) (x2:(List Hit)) (g7:Int) (v17:Form) (g45:Int) (g46:(List Int)) (g48:Int) (g49:Int) (g50:ByteArray) (g51:Int) (g52:(List Int)) (g53:(List Form)) (g54:Int) (g67:(List Hit)):Option (Form × Bool) :=
 match fuel with
 | 0=>none
 | fuel+1 =>
 (zdD fuel v17 g67 g54 (Form.mk g49 g50 g51 g52 g53)).bind fun v69 =>
 (bif (!v69.1) then
 some ((Form.mk 0 (⟨#[]⟩:ByteArray) 0 ([]:List Int) ([]:List Form)),false)
 else
 zdc fuel x1 x2 g7 v17 g45 g46 (w64 (g48+1)) v69.2.2.kind v69.2.2.name v69.2.2.n v69.2.2.scopes v69.2.2.kids v69.2.1)
def zdc (fuel:Nat) (x1:Form) (x2:(List Hit)) (g7:Int) (v17:Form) (g45:Int) (g46:(List Int)) (g48:Int) (g49:Int) (g50:ByteArray) (g51:Int) (g52:(List Int)) (g53:(List Form)) (g54:Int):Option (Form × Bool) :=
 match fuel with
 | 0=>none
 | fuel+1 =>
 (bif (decide (g48 < g45)) then
 (zeW fuel x2).bind fun v57 =>
 zcD fuel x1 x2 g7 v17 g45 g46 g48 g49 g50 g51 g52 g53 g54 0 v57
 else
 zbW fuel x1 x2 (w64 (g7+1)) g49 g50 g51 g52 g53 g54)
def zeL (fuel:Nat) (x1:Form) (x2:(List Hit)) (g7:Int) (g8:Int) (g9:ByteArray) (g10:Int) (g11:(List Int)) (g12:(List Form)) (g13:Int) (v17:Form) (g45:Int) (g46:(List Int)):Option (Form × Bool) :=
 match fuel with
 | 0=>none
 | fuel+1 =>
 zdc fuel x1 x2 g7 v17 g45 g46 0 g8 g9 g10 g11 g12 g13
def zbX (fuel:Nat) (x1:Form) (x2:(List Hit)) (g7:Int) (g8:Int) (g9:ByteArray) (g10:Int) (g11:(List Int)) (g12:(List Form)) (g13:Int) (v17:Form) (g23:Bool):Option (Form × Bool) :=
 match fuel with
 | 0=>none
 | fuel+1 =>
 (bif g23 then
 (zdD fuel v17 x2 g13 (Form.mk g8 g9 g10 g11 g12)).bind fun v26 =>
 (bif (!v26.1) then
 some ((Form.mk 0 (⟨#[]⟩:ByteArray) 0 ([]:List Int) ([]:List Form)),false)
 else
 zbW fuel x1 x2 (g7+1) v26.2.2.kind v26.2.2.name v26.2.2.n v26.2.2.scopes v26.2.2.kids v26.2.1)
 else
 zcb fuel x1 x2 g7 g8 g9 g10 g11 g12 g13 v17 0 ([]:List Int) (-1))
def zbW (fuel:Nat) (x1:Form) (x2:(List Hit)) (g7:Int) (g8:Int) (g9:ByteArray) (g10:Int) (g11:(List Int)) (g12:(List Form)) (g13:Int):Option (Form × Bool) :=
 match fuel with
 | 0=>none
 | fuel+1 =>
 (bif (decide (g7 < (x1.kids.length:Int))) then
 (idx x1.kids g7).bind fun v17 =>
 (zbb fuel v17 (⟨#[46,46,46]⟩:ByteArray)).bind fun v18 =>
 (bif v18 then
 zbW fuel x1 x2 (g7+1) g8 g9 g10 g11 g12 g13
 else
 (bif (decide ((g7+1)=(x1.kids.length:Int))) then
 zbX fuel x1 x2 g7 g8 g9 g10 g11 g12 g13 v17 true
 else
 (idx x1.kids (g7+1)).bind fun v21 =>
 (zbb fuel v21 (⟨#[46,46,46]⟩:ByteArray)).bind fun v22 =>
 zbX fuel x1 x2 g7 g8 g9 g10 g11 g12 g13 v17 (!v22)))
 else
 some ((Form.mk g8 g9 g10 g11 g12),true))
def zdD (fuel:Nat) (x1:Form) (x2:(List Hit)) (o1:Int) (o2:Form):Option (Bool × Int × Form) :=
 match fuel with
 | 0=>none
 | fuel+1 =>
 (zdQ fuel x1 x2).bind fun v1 =>
 (bif (!v1.2) then
 some (false,o1,o2)
 else
 (zcM fuel v1.1).bind fun v3 =>
 chk (decide ((o2.kids.length+[(Form.mk 0 (⟨#[]⟩:ByteArray) 0 ([]:List Int) ([]:List Form))].length)*80≤140737488355328)) <|
 (idx (o2.kids++[(Form.mk 0 (⟨#[]⟩:ByteArray) 0 ([]:List Int) ([]:List Form))]) (o2.kids.length:Int)).bind fun v5 =>
 some ((decide ((w64 (o1+v3))≤400)),(w64 (o1+v3)),(Form.mk o2.kind o2.name o2.n o2.scopes ((o2.kids++[(Form.mk 0 (⟨#[]⟩:ByteArray) 0 ([]:List Int) ([]:List Form))]).set (o2.kids.length:Int).toNat v1.1))))
end
def zg4 (fuel:Nat) (x1:Form):Option (Form × Bool) :=
 (zbL fuel x1).bind fun v1 =>
 (bif (!v1) then
 some ((Form.mk 0 (⟨#[]⟩:ByteArray) 0 ([]:List Int) ([]:List Form)),false)
 else
 (zaN fuel x1).bind fun v3 =>
 some (v3,true))
def zdr (fuel:Nat) (x1:Form) (x2:(List Hit)):Option (Form × Bool) :=
 (zc0 fuel x1 x2).bind fun v1 =>
 (bif (!v1) then
 some ((Form.mk 0 (⟨#[]⟩:ByteArray) 0 ([]:List Int) ([]:List Form)),false)
 else
 (zdQ fuel x1 x2).bind fun v3 =>
 (bif (!v3.2) then
 some ((Form.mk 0 (⟨#[]⟩:ByteArray) 0 ([]:List Int) ([]:List Form)),false)
 else
 (zg4 fuel v3.1).bind fun v5 =>
 some (v5.1,v5.2)))
def zdk (fuel:Nat) (x1:(List Bind)) (x2:(List Rule)) (x3:(List Form)) (x4:Form):Option (Form × Bool) :=
 (zeD fuel x1 x2 x3 x4).bind fun v1 =>
 (bif (!v1.2) then
 some ((Form.mk 0 (⟨#[]⟩:ByteArray) 0 ([]:List Int) ([]:List Form)),false)
 else
 (idx x2 v1.1).bind fun v3 =>
 (zcJ fuel x1 v3.pattern x3 x4).bind fun v4 =>
 (idx x2 v1.1).bind fun v5 =>
 (zdr fuel v5.template v4.1).bind fun v6 =>
 some (v6.1,v6.2))
def zcZ (fuel:Nat) (x1:(List Int)):Option ((List Rule) × (List Form)) :=
 (zfj fuel x1).bind fun v1 =>
 (zeI fuel x1).bind fun v2 =>
 (z5 fuel v2 2).bind fun v3 =>
 (bif (decide (v3.1=0)) then
 (z5 fuel v3.2 (v1.2.1.length:Int)).bind fun v5 =>
 (idx v1.2.1 v5.1).bind fun v6 =>
 chk (decide ((v1.2.1.length+[v6].length)*160≤140737488355328)) <|
 some ((v1.2.1++[v6]),v1.1)
 else
 some (v1.2.1,v1.1))
mutual
def zdP (fuel:Nat) (x1:Form) (x2:Form) (x3:(List Form)):Option Bool :=
 match fuel with
 | 0=>none
 | fuel+1 =>
 (zf7 fuel x1 x3).bind fun v1 =>
 (bif v1 then
 zb9 fuel x1 x2 x3 true
 else
 (zbb fuel x1 (⟨#[95]⟩:ByteArray)).bind fun v3 =>
 zb9 fuel x1 x2 x3 v3)
def zbP (fuel:Nat) (x1:Form) (x2:Form) (x3:(List Form)) (g13:Int):Option Bool :=
 match fuel with
 | 0=>none
 | fuel+1 =>
 (bif (decide (g13 < (x1.kids.length:Int))) then
 (idx x1.kids g13).bind fun v17 =>
 (zbb fuel v17 (⟨#[46,46,46]⟩:ByteArray)).bind fun v18 =>
 (idx x2.kids g13).bind fun v19 =>
 (zbb fuel v19 (⟨#[46,46,46]⟩:ByteArray)).bind fun v20 =>
 (bif (decide (v18≠v20)) then
 some false
 else
 (bif (!v18) then
 (idx x2.kids g13).bind fun v23 =>
 (zdP fuel v17 v23 x3).bind fun v24 =>
 (bif (!v24) then
 some false
 else
 zbP fuel x1 x2 x3 (g13+1))
 else
 zbP fuel x1 x2 x3 (g13+1)))
 else
 some true)
def zb8 (fuel:Nat) (x1:Form) (x2:Form) (x3:(List Form)) (g10:Bool):Option Bool :=
 match fuel with
 | 0=>none
 | fuel+1 =>
 (bif g10 then
 some false
 else
 zbP fuel x1 x2 x3 0)
def zb9 (fuel:Nat) (x1:Form) (x2:Form) (x3:(List Form)) (g4:Bool):Option Bool :=
 match fuel with
 | 0=>none
 | fuel+1 =>
 (bif g4 then
 some true
 else
 (bif (decide (x1.kind≠3)) then
 (zap fuel x1 x2).bind fun v8 =>
 some v8
 else
 (bif (decide (x2.kind≠3)) then
 zb8 fuel x1 x2 x3 true
 else
 zb8 fuel x1 x2 x3 (decide ((x1.kids.length:Int)≠(x2.kids.length:Int))))))
end
def zdF (fuel:Nat) (x1:Rule) (o1:Rule) (o2:(List Form)):Option Bool :=
 (zdP fuel x1.pattern o1.pattern o2).bind fun v1 =>
 some v1
def zX (fuel:Nat) (x1:(List Rule)) (o1:Rule) (o2:(List Form)) (g1:Int):Option Int :=
 match fuel with
 | 0=>none
 | fuel+1 =>
 (bif (decide (g1 < (x1.length:Int))) then
 (idx x1 g1).bind fun v5 =>
 (zdF fuel v5 o1 o2).bind fun v6 =>
 (bif v6 then
 some g1
 else
 zX fuel x1 o1 o2 (g1+1))
 else
 some (-1))
def zbg (fuel:Nat) (x1:(List Rule)) (o1:Rule) (o2:(List Form)):Option Int :=
 zX fuel x1 o1 o2 0
def zaR (fuel:Nat) (x1:(List Rule)) (o1:Rule) (o2:(List Form)):Option Bool :=
 (zbg fuel x1 o1 o2).bind fun v1 =>
 some (decide (0≤v1))
def zbj (fuel:Nat) (x1:(List Rule)) (x2:(List Form)) (g3:(List Int)) (g4:Int):Option (List Int) :=
 match fuel with
 | 0=>none
 | fuel+1 =>
 (bif (decide (g4 < (x1.length:Int))) then
 (idx x1 g4).bind fun v8 =>
 (sub x1 0 g4).bind fun v9 =>
 (zaR fuel v9 v8 x2).bind fun v10 =>
 (bif v10 then
 chk (decide ((g3.length+[g4].length)*8≤140737488355328)) <|
 zbj fuel x1 x2 (g3++[g4]) (g4+1)
 else
 zbj fuel x1 x2 g3 (g4+1))
 else
 some g3)
def zeE (fuel:Nat) (x1:(List Rule)) (x2:(List Form)):Option (List Int) :=
 (zeJ fuel x1 x2).bind fun v1 =>
 (bif (!v1) then
 some ([]:List Int)
 else
 zbj fuel x1 x2 ([]:List Int) 0)
mutual
def zcR (fuel:Nat) (x1:Form) (x2:Form) (x3:(List Form)):Option Bool :=
 match fuel with
 | 0=>none
 | fuel+1 =>
 (bif (decide (x2.kind=1)) then
 (bif (decide (x2.name≠(⟨#[46,46,46]⟩:ByteArray))) then
 (ze5 fuel x3 x2).bind fun v3 =>
 (bif (!v3) then
 some true
 else
 zbC fuel x1 x2 x3 )
 else
 zbC fuel x1 x2 x3 )
 else
 zbC fuel x1 x2 x3 )
def zbc (fuel:Nat) (x1:Form) (x2:Form) (x3:(List Form)) (g12:Int):Option Bool :=
 match fuel with
 | 0=>none
 | fuel+1 =>
 (bif (decide (g12 < (x1.kids.length:Int))) then
 (idx x1.kids g12).bind fun v16 =>
 (zbd fuel v16).bind fun v17 =>
 (idx x2.kids g12).bind fun v18 =>
 (zbd fuel v18).bind fun v19 =>
 (bif (decide (v17≠v19)) then
 some false
 else
 (idx x1.kids g12).bind fun v21 =>
 (zbd fuel v21).bind fun v22 =>
 (bif (!v22) then
 (idx x1.kids g12).bind fun v24 =>
 (idx x2.kids g12).bind fun v25 =>
 (zcR fuel v24 v25 x3).bind fun v26 =>
 (bif (!v26) then
 some false
 else
 zbc fuel x1 x2 x3 (g12+1))
 else
 zbc fuel x1 x2 x3 (g12+1)))
 else
 some true)
def zbB (fuel:Nat) (x1:Form) (x2:Form) (x3:(List Form)) (g9:Bool):Option Bool :=
 match fuel with
 | 0=>none
 | fuel+1 =>
 (bif g9 then
 some false
 else
 zbc fuel x1 x2 x3 0)
def zbC (fuel:Nat) (x1:Form) (x2:Form) (x3:(List Form)):Option Bool :=
 match fuel with
 | 0=>none
 | fuel+1 =>
 (bif (decide (x2.kind≠3)) then
 (zbk fuel x1 x2).bind fun v7 =>
 some v7
 else
 (bif (decide (x1.kind≠3)) then
 zbB fuel x1 x2 x3 true
 else
 zbB fuel x1 x2 x3 (decide ((x1.kids.length:Int)≠(x2.kids.length:Int)))))
end
mutual
def zbF (fuel:Nat) (x1:(List Rule)) (x2:(List Form)) (g1:(List Int)) (g2:Int) (g9:Bool) (g10:Int) (g13:Bool):Option (List Int) :=
 match fuel with
 | 0=>none
 | fuel+1 =>
 (bif g13 then
 (idx x1 g2).bind fun v16 =>
 (idx x1 g10).bind fun v17 =>
 (zcR fuel v16.pattern v17.pattern x2).bind fun v18 =>
 zbe fuel x1 x2 g1 g2 v18 (w64 (g10+1))
 else
 zcw fuel x1 x2 g1 g2 g9)
def zbe (fuel:Nat) (x1:(List Rule)) (x2:(List Form)) (g1:(List Int)) (g2:Int) (g9:Bool) (g10:Int):Option (List Int) :=
 match fuel with
 | 0=>none
 | fuel+1 =>
 (bif (decide (g10 < g2)) then
 zbF fuel x1 x2 g1 g2 g9 g10 (!g9)
 else
 zbF fuel x1 x2 g1 g2 g9 g10 false)
def zcw (fuel:Nat) (x1:(List Rule)) (x2:(List Form)) (g1:(List Int)) (g2:Int) (g19:Bool):Option (List Int) :=
 match fuel with
 | 0=>none
 | fuel+1 =>
 (bif g19 then
 chk (decide ((g1.length+[g2].length)*8≤140737488355328)) <|
 zaQ fuel x1 x2 (g1++[g2]) (w64 (g2+1))
 else
 zaQ fuel x1 x2 g1 (w64 (g2+1)))
def zbf (fuel:Nat) (x1:(List Rule)) (x2:(List Form)) (g1:(List Int)) (g2:Int) (g6:Bool):Option (List Int) :=
 match fuel with
 | 0=>none
 | fuel+1 =>
 (bif g6 then
 zbe fuel x1 x2 g1 g2 false 0
 else
 some g1)
def zaQ (fuel:Nat) (x1:(List Rule)) (x2:(List Form)) (g1:(List Int)) (g2:Int):Option (List Int) :=
 match fuel with
 | 0=>none
 | fuel+1 =>
 (bif (decide (g2 < (x1.length:Int))) then
 (zeG fuel x1 x2).bind fun v5 =>
 zbf fuel x1 x2 g1 g2 v5
 else
 zbf fuel x1 x2 g1 g2 false)
end
def zeu (fuel:Nat) (x1:(List Rule)) (x2:(List Form)):Option (List Int) :=
 zaQ fuel x1 x2 ([]:List Int) 0
def zdM (fuel:Nat) (x1:(List Int)) (x2:Int) (g1:Int):Option Bool :=
 match fuel with
 | 0=>none
 | fuel+1 =>
 (bif (decide (g1 < (x1.length:Int))) then
 (idx x1 g1).bind fun v5 =>
 (bif (decide (v5=x2)) then
 some true
 else
 zdM fuel x1 x2 (g1+1))
 else
 some false)
def zhf (fuel:Nat) (x1:(List Int)) (x2:Int):Option Bool :=
 zdM fuel x1 x2 0
mutual
def zaL (fuel:Nat) (v5:(List Rule) × (List Form)) (v6:(List Int)) (v10:(List Bind) × (List Rule) × (List Form) × Form) (g11:(List Rule)) (g12:Int):Option Bool :=
 match fuel with
 | 0=>none
 | fuel+1 =>
 (bif (decide (g12 < (v5.1.length:Int))) then
 (zhf fuel v6 g12).bind fun v16 =>
 (bif (!v16) then
 (idx v5.1 g12).bind fun v18 =>
 chk (decide ((g11.length+[v18].length)*160≤140737488355328)) <|
 zaL fuel v5 v6 v10 (g11++[v18]) (g12+1)
 else
 zaL fuel v5 v6 v10 g11 (g12+1))
 else
 zb6 fuel v5 v6 v10 g11)
def zb6 (fuel:Nat) (v5:(List Rule) × (List Form)) (v6:(List Int)) (v10:(List Bind) × (List Rule) × (List Form) × Form) (g20:(List Rule)):Option Bool :=
 match fuel with
 | 0=>none
 | fuel+1 =>
 (zdk fuel ([]:List Bind) v5.1 v5.2 v10.2.2.2).bind fun v22 =>
 (zdk fuel ([]:List Bind) g20 v5.2 v10.2.2.2).bind fun v23 =>
 (bif (decide (v22.2=v23.2)) then
 (zap fuel v22.1 v23.1).bind fun v25 =>
 (bif v25 then
 (bif (decide ((v6.length:Int)=0)) then
 some true
 else
 (idx v6 0).bind fun v28 =>
 some (decide (0 < v28)))
 else
 some false)
 else
 some false)
def zba (fuel:Nat) (x1:(List Int)) (x2:(List Int)) (g2:Bool):Option Bool :=
 match fuel with
 | 0=>none
 | fuel+1 =>
 (bif g2 then
 some true
 else
 (zcZ fuel x1).bind fun v5 =>
 (zeE fuel v5.1 v5.2).bind fun v6 =>
 (zeu fuel v5.1 v5.2).bind fun v7 =>
 (zgm fuel v6 v7).bind fun v8 =>
 (bif (!v8) then
 some false
 else
 (zcY fuel x2).bind fun v10 =>
 zaL fuel v5 v6 v10 ([]:List Rule) 0))
end
def zeX (fuel:Nat) (x1:(List Int)) (x2:(List Int)):Option Bool :=
 (bif (decide (1048576 < (x1.length:Int))) then
 zba fuel x1 x2 true
 else
 zba fuel x1 x2 (decide (1048576 < (x2.length:Int))))
end Go.Abs
