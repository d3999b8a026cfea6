/- A part of the proof: what the functions that the law calls answer, as pure values. -/
import Derived.Test.YtcllpfmjggkpnaaGreatKcd1b73107f87
import Derived.Test.YtcllpfmjggkpnaaGreatK901cfc26645b
import Derived.Test.YtcllpfmjggkpnaaGreatKa8136476e481
set_option linter.unusedSimpArgs false
set_option linter.unusedVariables false
set_option maxHeartbeats 4000000
namespace Go.Abs
mutual
def zbx (fuel:Nat) (x1:(List Bind)) (x2:(List Rule)) (x3:(List Form)) (x4:Form) (g9:Int):Option (Int × Bool) :=
 match fuel with
 | 0=>none
 | fuel+1 =>
 (bif (decide (g9 < (x2.length:Int))) then
 (idx x2 g9).bind fun v13 =>
 (zb8 fuel x1 v13.pattern x3 x4).bind fun v14 =>
 (bif v14.2 then
 some (g9,true)
 else
 zbx fuel x1 x2 x3 x4 (g9+1))
 else
 some (0,false))
def za5 (fuel:Nat) (x1:(List Bind)) (x2:(List Rule)) (x3:(List Form)) (x4:Form) (g6:Bool):Option (Int × Bool) :=
 match fuel with
 | 0=>none
 | fuel+1 =>
 (bif g6 then
 some (0,false)
 else
 zbx fuel x1 x2 x3 x4 0)
end
def zew (fuel:Nat) (x1:(List Bind)) (x2:(List Rule)) (x3:(List Form)) (x4:Form):Option (Int × Bool) :=
 (zdn fuel x1).bind fun v1 =>
 (bif (!v1) then
 za5 fuel x1 x2 x3 x4 true
 else
 (zeD fuel x2 x3).bind fun v3 =>
 (bif (!v3) then
 za5 fuel x1 x2 x3 x4 true
 else
 (zaF fuel x4).bind fun v5 =>
 za5 fuel x1 x2 x3 x4 (!v5)))
mutual
def zdH (fuel:Nat) (o1:zba) (x2:Int):Option (Form × zba) :=
 match fuel with
 | 0=>none
 | fuel+1 =>
 (bif (decide (x2=0)) then
 (zL fuel o1 4).bind fun v2 =>
 (bif (decide (v2.1=0)) then
 (zaq fuel v2.2 [0,1,2,7,42,999]).bind fun v4 =>
 some ((Form.mk 2 (⟨#[]⟩:ByteArray) v4.1 ([]:List Int) ([]:List Form)),v4.2)
 else
 (zbs fuel v2.2 [(⟨#[97]⟩:ByteArray),(⟨#[98]⟩:ByteArray),(⟨#[120]⟩:ByteArray),(⟨#[121]⟩:ByteArray),(⟨#[102]⟩:ByteArray),(⟨#[105,102]⟩:ByteArray),(⟨#[108,101,116]⟩:ByteArray),(⟨#[43]⟩:ByteArray)]).bind fun v5 =>
 (zeb fuel v5.1).bind fun v6 =>
 some (v6,v5.2))
 else
 (zL fuel o1 3).bind fun v7 =>
 (bif (decide (v7.1=0)) then
 (zL fuel v7.2 4).bind fun v9 =>
 (bif (decide (v9.1=0)) then
 (zaq fuel v9.2 [0,1,2,7,42,999]).bind fun v11 =>
 some ((Form.mk 2 (⟨#[]⟩:ByteArray) v11.1 ([]:List Int) ([]:List Form)),v11.2)
 else
 (zbs fuel v9.2 [(⟨#[97]⟩:ByteArray),(⟨#[98]⟩:ByteArray),(⟨#[120]⟩:ByteArray),(⟨#[121]⟩:ByteArray),(⟨#[102]⟩:ByteArray),(⟨#[105,102]⟩:ByteArray),(⟨#[108,101,116]⟩:ByteArray),(⟨#[43]⟩:ByteArray)]).bind fun v12 =>
 (zeb fuel v12.1).bind fun v13 =>
 some (v13,v12.2))
 else
 (zL fuel v7.2 4).bind fun v14 =>
 zcu fuel x2 v14.1 v14.2.b v14.2.p ([]:List Form)))
def zcu (fuel:Nat) (x2:Int) (g15:Int) (g16:(List Int)) (g17:Int) (g18:(List Form)):Option (Form × zba) :=
 match fuel with
 | 0=>none
 | fuel+1 =>
 (bif (decide (0 < g15)) then
 (zdH fuel (zba.mk g16 g17) (w64 (x2-1))).bind fun v21 =>
 chk (decide ((g18.length+[v21.1].length)*80≤140737488355328)) <|
 zcu fuel x2 (w64 (g15-1)) v21.2.b v21.2.p (g18++[v21.1])
 else
 some ((Form.mk 3 (⟨#[]⟩:ByteArray) 0 ([]:List Int) g18),(zba.mk g16 g17)))
end
def zfX (fuel:Nat) (x1:(List Int)):Option (Form × (List Hit)) :=
 (zfY fuel x1).bind fun v1 =>
 (zeF fuel x1).bind fun v2 =>
 (zew fuel ([]:List Bind) v1.2.1 v1.1 v1.2.2).bind fun v3 =>
 (bif (!v3.2) then
 (zdH fuel v2 2).bind fun v5 =>
 some (v5.1,([]:List Hit))
 else
 (idx v1.2.1 v3.1).bind fun v6 =>
 (zds fuel ([]:List Bind) v6.pattern v1.1 v1.2.2).bind fun v7 =>
 (idx v1.2.1 v3.1).bind fun v8 =>
 (za4 fuel v8.template).bind fun v9 =>
 (zL fuel v2 12).bind fun v10 =>
 (bif (decide (v10.1=0)) then
 (zao fuel v10.2 v9).bind fun v12 =>
 (zao fuel v12.2 v12.1).bind fun v13 =>
 some (v13.1,v7.1)
 else
 (bif (decide (v10.1=1)) then
 (zbs fuel v10.2 [(⟨#[40,97,32,46,46,46,41]⟩:ByteArray),(⟨#[40,120,32,46,46,46,32,46,46,46,41]⟩:ByteArray),(⟨#[46,46,46]⟩:ByteArray),(⟨#[40,49,32,46,46,46,41]⟩:ByteArray),(⟨#[40,113,32,40,97,32,98,41,32,46,46,46,41]⟩:ByteArray)]).bind fun v15 =>
 (zdg fuel v15.1).bind fun v16 =>
 some (v16,v7.1)
 else
 some (v9,v7.1))))
mutual
def zcS (fuel:Nat) (x1:Form):Option Int :=
 match fuel with
 | 0=>none
 | fuel+1 =>
 zbK fuel x1 1 0
def zbK (fuel:Nat) (x1:Form) (g1:Int) (g2:Int):Option Int :=
 match fuel with
 | 0=>none
 | fuel+1 =>
 (bif (decide (g2 < (x1.kids.length:Int))) then
 (idx x1.kids g2).bind fun v6 =>
 (zcS fuel v6).bind fun v7 =>
 zbK fuel x1 (w64 (g1+v7)) (g2+1)
 else
 some g1)
end
def zcd (fuel:Nat) (x1:(List Int)):Option (Form × (List Hit)) :=
 (zfX fuel x1).bind fun v1 =>
 some (v1.1,v1.2)
def zgT (fuel:Nat) (x1:Form) (o1:Bool) (o2:Hit):Option Bool :=
 (bif o1 then
 some true
 else
 (zaz fuel x1 o2.name).bind fun v2 =>
 some v2)
mutual
def zaU (fuel:Nat) (x1:Form) (o1:Bool) (o2:Hit):Option Bool :=
 match fuel with
 | 0=>none
 | fuel+1 =>
 (zgT fuel x1 o1 o2).bind fun v1 =>
 zaD fuel x1 o2 0 v1
def zaD (fuel:Nat) (x1:Form) (o2:Hit) (g2:Int) (g3:Bool):Option Bool :=
 match fuel with
 | 0=>none
 | fuel+1 =>
 (bif (decide (g2 < (x1.kids.length:Int))) then
 (idx x1.kids g2).bind fun v7 =>
 (zaU fuel v7 g3 o2).bind fun v8 =>
 zaD fuel x1 o2 (g2+1) v8
 else
 some g3)
end
def zeN (fuel:Nat) (x1:(List Hit)):Option (List Hit) :=
 chk (decide ((([]:List Hit).length+x1.length)*192≤140737488355328)) <|
 some (([]:List Hit)++x1)
mutual
def zdS (fuel:Nat) (x1:Form) (x2:(List Hit)):Option (Form × Bool) :=
 match fuel with
 | 0=>none
 | fuel+1 =>
 (bif (decide (x1.kind=1)) then
 (zeZ fuel x2 x1).bind fun v2 =>
 (bif (decide (0≤v2)) then
 (idx x2 v2).bind fun v4 =>
 (zbz fuel v4.one).bind fun v5 =>
 some (v5,true)
 else
 (zbz fuel x1).bind fun v6 =>
 some (v6,true))
 else
 zbO fuel x1 x2 0 x1.kind (⟨#[]⟩:ByteArray) x1.n ([]:List Int) ([]:List Form) 0)
def zdj (fuel:Nat) (x1:Form) (x2:(List Hit)) (g7:Int) (g8:Int) (g9:ByteArray) (g10:Int) (g11:(List Int)) (g12:(List Form)) (g13:Int) (v17:Form) (g28:Int) (g29:(List Int)) (v34:Hit) (g42:Bool):Option (Form × Bool) :=
 match fuel with
 | 0=>none
 | fuel+1 =>
 (bif g42 then
 some ((Form.mk 0 (⟨#[]⟩:ByteArray) 0 ([]:List Int) ([]:List Form)),false)
 else
 zb9 fuel x1 x2 g7 g8 g9 g10 g11 g12 g13 v17 (g28+1) (g29++[g28]) (v34.many.length:Int))
def zdk (fuel:Nat) (x1:Form) (x2:(List Hit)) (g7:Int) (g8:Int) (g9:ByteArray) (g10:Int) (g11:(List Int)) (g12:(List Form)) (g13:Int) (v17:Form) (g28:Int) (g29:(List Int)) (g30:Int) (v34:Hit) (g37:Bool):Option (Form × Bool) :=
 match fuel with
 | 0=>none
 | fuel+1 =>
 (bif g37 then
 zb9 fuel x1 x2 g7 g8 g9 g10 g11 g12 g13 v17 (g28+1) g29 g30
 else
 chk (decide ((g29.length+[g28].length)*8≤140737488355328)) <|
 (bif (decide (0≤g30)) then
 zdj fuel x1 x2 g7 g8 g9 g10 g11 g12 g13 v17 g28 g29 v34 (decide (g30≠(v34.many.length:Int)))
 else
 zdj fuel x1 x2 g7 g8 g9 g10 g11 g12 g13 v17 g28 g29 v34 false))
def zb9 (fuel:Nat) (x1:Form) (x2:(List Hit)) (g7:Int) (g8:Int) (g9:ByteArray) (g10:Int) (g11:(List Int)) (g12:(List Form)) (g13:Int) (v17:Form) (g28:Int) (g29:(List Int)) (g30:Int):Option (Form × Bool) :=
 match fuel with
 | 0=>none
 | fuel+1 =>
 (bif (decide (g28 < (x2.length:Int))) then
 (idx x2 g28).bind fun v34 =>
 (zaU fuel v17 false v34).bind fun v35 =>
 (bif (!v35) then
 zdk fuel x1 x2 g7 g8 g9 g10 g11 g12 g13 v17 g28 g29 g30 v34 true
 else
 zdk fuel x1 x2 g7 g8 g9 g10 g11 g12 g13 v17 g28 g29 g30 v34 (decide (v34.depth=0)))
 else
 zeH fuel x1 x2 g7 g8 g9 g10 g11 g12 g13 v17 g30 g29)
def zcJ (fuel:Nat) (x1:Form) (x2:(List Hit)) (g7:Int) (v17:Form) (g45:Int) (g46:(List Int)) (g48:Int) (g49:Int) (g50:ByteArray) (g51:Int) (g52:(List Int)) (g53:(List Form)) (g54:Int) (g58:Int) (g59:(List Hit)):Option (Form × Bool) :=
 match fuel with
 | 0=>none
 | fuel+1 =>
 (bif (decide (g58 < (g46.length:Int))) then
 (idx g46 g58).bind fun v63 =>
 (idx x2 v63).bind fun v64 =>
 (idx v64.many g48).bind fun v65 =>
 (idx g59 v63).bind fun v66 =>
 zcJ fuel x1 x2 g7 v17 g45 g46 g48 g49 g50 g51 g52 g53 g54 (g58+1) (g59.set v63.toNat v65)
 else
 zeG fuel x1 x2 g7 v17 g45 g46 g48 g49 g50 g51 g52 g53 g54 g59)
def zeG (fuel:Nat) (x1:Form) (x2:(List Hit)) (g7:Int) (v17:Form) (g45:Int) (g46:(List Int)) (g48:Int) (g49:Int) (g50:ByteArray) (g51:Int) (g52:(List Int)) (g53:(List Form)) (g54:Int) (g67:(List Hit)):Option (Form × Bool) :=
 match fuel with
 | 0=>none
 | fuel+1 =>
 (zdK fuel v17 g67 g54 (Form.mk g49 g50 g51 g52 g53)).bind fun v69 =>
 (bif (!v69.1) then
 some ((Form.mk 0 (⟨#[]⟩:ByteArray) 0 ([]:List Int) ([]:List Form)),false)
 else
 zdi fuel x1 x2 g7 v17 g45 g46 (w64 (g48+1)) v69.2.2.kind v69.2.2.name v69.2.2.n v69.2.2.scopes v69.2.2.kids v69.2.1)
def zdi (fuel:Nat) (x1:Form) (x2:(List Hit)) (g7:Int) (v17:Form) (g45:Int) (g46:(List Int)) (g48:Int) (g49:Int) (g50:ByteArray) (g51:Int) (g52:(List Int)) (g53:(List Form)) (g54:Int):Option (Form × Bool) :=
 match fuel with
 | 0=>none
 | fuel+1 =>
 (bif (decide (g48 < g45)) then
 (zeN fuel x2).bind fun v57 =>
 zcJ fuel x1 x2 g7 v17 g45 g46 g48 g49 g50 g51 g52 g53 g54 0 v57
 else
 zbO fuel x1 x2 (w64 (g7+1)) g49 g50 g51 g52 g53 g54)
def zeH (fuel:Nat) (x1:Form) (x2:(List Hit)) (g7:Int) (g8:Int) (g9:ByteArray) (g10:Int) (g11:(List Int)) (g12:(List Form)) (g13:Int) (v17:Form) (g45:Int) (g46:(List Int)):Option (Form × Bool) :=
 match fuel with
 | 0=>none
 | fuel+1 =>
 zdi fuel x1 x2 g7 v17 g45 g46 0 g8 g9 g10 g11 g12 g13
def zbP (fuel:Nat) (x1:Form) (x2:(List Hit)) (g7:Int) (g8:Int) (g9:ByteArray) (g10:Int) (g11:(List Int)) (g12:(List Form)) (g13:Int) (v17:Form) (g23:Bool):Option (Form × Bool) :=
 match fuel with
 | 0=>none
 | fuel+1 =>
 (bif g23 then
 (zdK fuel v17 x2 g13 (Form.mk g8 g9 g10 g11 g12)).bind fun v26 =>
 (bif (!v26.1) then
 some ((Form.mk 0 (⟨#[]⟩:ByteArray) 0 ([]:List Int) ([]:List Form)),false)
 else
 zbO fuel x1 x2 (g7+1) v26.2.2.kind v26.2.2.name v26.2.2.n v26.2.2.scopes v26.2.2.kids v26.2.1)
 else
 zb9 fuel x1 x2 g7 g8 g9 g10 g11 g12 g13 v17 0 ([]:List Int) (-1))
def zbO (fuel:Nat) (x1:Form) (x2:(List Hit)) (g7:Int) (g8:Int) (g9:ByteArray) (g10:Int) (g11:(List Int)) (g12:(List Form)) (g13:Int):Option (Form × Bool) :=
 match fuel with
 | 0=>none
 | fuel+1 =>
 (bif (decide (g7 < (x1.kids.length:Int))) then
 (idx x1.kids g7).bind fun v17 =>
 (zcw fuel v17 (⟨#[46,46,46]⟩:ByteArray)).bind fun v18 =>
 (bif v18 then
 zbO fuel x1 x2 (g7+1) g8 g9 g10 g11 g12 g13
 else
 (bif (decide ((g7+1)=(x1.kids.length:Int))) then
 zbP fuel x1 x2 g7 g8 g9 g10 g11 g12 g13 v17 true
 else
 (idx x1.kids (g7+1)).bind fun v21 =>
 (zcw fuel v21 (⟨#[46,46,46]⟩:ByteArray)).bind fun v22 =>
 zbP fuel x1 x2 g7 g8 g9 g10 g11 g12 g13 v17 (!v22)))
 else
 some ((Form.mk g8 g9 g10 g11 g12),true))
def zdK (fuel:Nat) (x1:Form) (x2:(List Hit)) (o1:Int) (o2:Form):Option (Bool × Int × Form) :=
 match fuel with
 | 0=>none
 | fuel+1 =>
 (zdS fuel x1 x2).bind fun v1 =>
 (bif (!v1.2) then
 some (false,o1,o2)
 else
 (zcS fuel v1.1).bind fun v3 =>
 chk (decide ((o2.kids.length+[(Form.mk 0 (⟨#[]⟩:ByteArray) 0 ([]:List Int) ([]:List Form))].length)*80≤140737488355328)) <|
 (idx (o2.kids++[(Form.mk 0 (⟨#[]⟩:ByteArray) 0 ([]:List Int) ([]:List Form))]) (o2.kids.length:Int)).bind fun v5 =>
 some ((decide ((w64 (o1+v3))≤400)),(w64 (o1+v3)),(Form.mk o2.kind o2.name o2.n o2.scopes ((o2.kids++[(Form.mk 0 (⟨#[]⟩:ByteArray) 0 ([]:List Int) ([]:List Form))]).set (o2.kids.length:Int).toNat v1.1))))
end
def zff (fuel:Nat) (x1:Form):Option (Form × Bool) :=
 (zbX fuel x1).bind fun v1 =>
 (bif (!v1) then
 some ((Form.mk 0 (⟨#[]⟩:ByteArray) 0 ([]:List Int) ([]:List Form)),false)
 else
 (zbz fuel x1).bind fun v3 =>
 some (v3,true))
def zcF (fuel:Nat) (x1:Form) (x2:(List Hit)):Option (Form × Bool) :=
 (zc8 fuel x1 x2).bind fun v1 =>
 (bif (!v1) then
 some ((Form.mk 0 (⟨#[]⟩:ByteArray) 0 ([]:List Int) ([]:List Form)),false)
 else
 (zdS fuel x1 x2).bind fun v3 =>
 (bif (!v3.2) then
 some ((Form.mk 0 (⟨#[]⟩:ByteArray) 0 ([]:List Int) ([]:List Form)),false)
 else
 (zff fuel v3.1).bind fun v5 =>
 some (v5.1,v5.2)))
mutual
def zdG (fuel:Nat) (x1:Form) (x2:Form):Option Bool :=
 match fuel with
 | 0=>none
 | fuel+1 =>
 (bif (decide (x1.kind=1)) then
 (zav fuel x1 x2).bind fun v2 =>
 (bif v2 then
 some true
 else
 zcX fuel x1 x2 )
 else
 zcX fuel x1 x2 )
def zcj (fuel:Nat) (x1:Form) (x2:Form) (g5:Int):Option Bool :=
 match fuel with
 | 0=>none
 | fuel+1 =>
 (bif (decide (g5 < (x1.kids.length:Int))) then
 (idx x1.kids g5).bind fun v9 =>
 (zdG fuel v9 x2).bind fun v10 =>
 (bif v10 then
 some true
 else
 zcj fuel x1 x2 (g5+1))
 else
 some false)
def zcX (fuel:Nat) (x1:Form) (x2:Form):Option Bool :=
 match fuel with
 | 0=>none
 | fuel+1 =>
 zcj fuel x1 x2 0
end
mutual
def zcz (fuel:Nat) (x1:Form) (x2:(List Hit)) (g1:Int):Option Int :=
 match fuel with
 | 0=>none
 | fuel+1 =>
 (idx x2 g1).bind fun v17 =>
 zbG fuel x1 x2 (g1+1) (v17.many.length:Int)
def zb2 (fuel:Nat) (x1:Form) (x2:(List Hit)) (g1:Int) (g2:Int) (g10:Bool):Option Int :=
 match fuel with
 | 0=>none
 | fuel+1 =>
 (bif g10 then
 zbG fuel x1 x2 (g1+1) g2
 else
 (bif (decide (0≤g2)) then
 (idx x2 g1).bind fun v14 =>
 (bif (decide (g2≠(v14.many.length:Int))) then
 some (-1)
 else
 zcz fuel x1 x2 g1 )
 else
 zcz fuel x1 x2 g1 ))
def zbG (fuel:Nat) (x1:Form) (x2:(List Hit)) (g1:Int) (g2:Int):Option Int :=
 match fuel with
 | 0=>none
 | fuel+1 =>
 (bif (decide (g1 < (x2.length:Int))) then
 (idx x2 g1).bind fun v6 =>
 (bif (decide (v6.depth=0)) then
 zb2 fuel x1 x2 g1 g2 true
 else
 (idx x2 g1).bind fun v8 =>
 (zdG fuel x1 v8.name).bind fun v9 =>
 zb2 fuel x1 x2 g1 g2 (!v9))
 else
 some g2)
end
def zfl (fuel:Nat) (x1:Form) (x2:(List Hit)):Option Int :=
 zbG fuel x1 x2 0 (-1)
mutual
def zcM (fuel:Nat) (x1:Form) (x2:(List Hit)) (x3:Int) (g1:(List Hit)) (g2:Int) (v6:Hit) (g9:Bool):Option (List Hit) :=
 match fuel with
 | 0=>none
 | fuel+1 =>
 (bif g9 then
 (idx v6.many x3).bind fun v12 =>
 chk (decide ((g1.length+[v12].length)*192≤140737488355328)) <|
 zca fuel x1 x2 x3 (g1++[v12]) (g2+1)
 else
 chk (decide ((g1.length+[v6].length)*192≤140737488355328)) <|
 zca fuel x1 x2 x3 (g1++[v6]) (g2+1))
def zca (fuel:Nat) (x1:Form) (x2:(List Hit)) (x3:Int) (g1:(List Hit)) (g2:Int):Option (List Hit) :=
 match fuel with
 | 0=>none
 | fuel+1 =>
 (bif (decide (g2 < (x2.length:Int))) then
 (idx x2 g2).bind fun v6 =>
 (bif (decide (0 < v6.depth)) then
 (zdG fuel x1 v6.name).bind fun v8 =>
 zcM fuel x1 x2 x3 g1 g2 v6 v8
 else
 zcM fuel x1 x2 x3 g1 g2 v6 false)
 else
 some g1)
end
def zfQ (fuel:Nat) (x1:Form) (x2:(List Hit)) (x3:Int):Option (List Hit) :=
 zca fuel x1 x2 x3 ([]:List Hit) 0
mutual
def zda (fuel:Nat) (x1:Form) (x2:(List Hit)):Option (Form × Bool) :=
 match fuel with
 | 0=>none
 | fuel+1 =>
 (bif (decide (x1.kind=1)) then
 (zd9 fuel x2 x1).bind fun v2 =>
 zcp fuel x1 x2 v2
 else
 zcp fuel x1 x2 (-1))
def zcm (fuel:Nat) (x1:Form) (x2:(List Hit)) (g10:Int) (g22:Bool) (g27:Int) (g30:Int) (g31:Int) (g32:(List Form)) (v41:Form × Bool) (v42:Int) (g44:Bool):Option (Form × Bool) :=
 match fuel with
 | 0=>none
 | fuel+1 =>
 (bif g44 then
 some (x1,false)
 else
 chk (decide ((g32.length+[v41.1].length)*80≤140737488355328)) <|
 zcl fuel x1 x2 g10 g22 g27 (w64 (g30+v42)) (w64 (g31+1)) (g32++[v41.1]))
def zcY (fuel:Nat) (x1:Form) (x2:(List Hit)) (g10:Int) (g22:Bool) (g27:Int) (g30:Int) (g31:Int) (g32:(List Form)) (g38:(List Hit)):Option (Form × Bool) :=
 match fuel with
 | 0=>none
 | fuel+1 =>
 (idx x1.kids g10).bind fun v40 =>
 (zda fuel v40 g38).bind fun v41 =>
 (zdh fuel v41.1).bind fun v42 =>
 (bif (!v41.2) then
 zcm fuel x1 x2 g10 g22 g27 g30 g31 g32 v41 v42 true
 else
 zcm fuel x1 x2 g10 g22 g27 g30 g31 g32 v41 v42 (decide (400 < (w64 (g30+v42)))))
def zcl (fuel:Nat) (x1:Form) (x2:(List Hit)) (g10:Int) (g22:Bool) (g27:Int) (g30:Int) (g31:Int) (g32:(List Form)):Option (Form × Bool) :=
 match fuel with
 | 0=>none
 | fuel+1 =>
 (bif (decide (g31 < g27)) then
 (bif g22 then
 (idx x1.kids g10).bind fun v36 =>
 (zfQ fuel v36 x2 g31).bind fun v37 =>
 zcY fuel x1 x2 g10 g22 g27 g30 g31 g32 v37
 else
 zcY fuel x1 x2 g10 g22 g27 g30 g31 g32 x2)
 else
 zbC fuel x1 x2 (w64 (g10+1)) g30 g32)
def zcn (fuel:Nat) (x1:Form) (x2:(List Hit)) (g10:Int) (g11:Int) (g12:(List Form)) (g22:Bool) (g27:Int):Option (Form × Bool) :=
 match fuel with
 | 0=>none
 | fuel+1 =>
 (bif (decide (g27 < 0)) then
 some (x1,false)
 else
 zcl fuel x1 x2 g10 g22 g27 g11 0 g12)
def zco (fuel:Nat) (x1:Form) (x2:(List Hit)) (g10:Int) (g11:Int) (g12:(List Form)) (g22:Bool):Option (Form × Bool) :=
 match fuel with
 | 0=>none
 | fuel+1 =>
 (bif g22 then
 (idx x1.kids g10).bind fun v25 =>
 (zfl fuel v25 x2).bind fun v26 =>
 zcn fuel x1 x2 g10 g11 g12 g22 v26
 else
 zcn fuel x1 x2 g10 g11 g12 g22 1)
def zbC (fuel:Nat) (x1:Form) (x2:(List Hit)) (g10:Int) (g11:Int) (g12:(List Form)):Option (Form × Bool) :=
 match fuel with
 | 0=>none
 | fuel+1 =>
 (bif (decide (g10 < (x1.kids.length:Int))) then
 (idx x1.kids g10).bind fun v16 =>
 (zaV fuel v16).bind fun v17 =>
 (bif v17 then
 zbC fuel x1 x2 (g10+1) g11 g12
 else
 (bif (decide ((g10+1) < (x1.kids.length:Int))) then
 (idx x1.kids (g10+1)).bind fun v20 =>
 (zaV fuel v20).bind fun v21 =>
 zco fuel x1 x2 g10 g11 g12 v21
 else
 zco fuel x1 x2 g10 g11 g12 false))
 else
 some ((Form.mk x1.kind x1.name x1.n (([]:List Int)++x1.scopes) g12),true))
def zcp (fuel:Nat) (x1:Form) (x2:(List Hit)) (g3:Int):Option (Form × Bool) :=
 match fuel with
 | 0=>none
 | fuel+1 =>
 (bif (decide (0≤g3)) then
 (idx x2 g3).bind fun v6 =>
 (za4 fuel v6.one).bind fun v7 =>
 (idx x2 g3).bind fun v8 =>
 some (v7,(decide (v8.depth=0)))
 else
 chk (decide ((([]:List Int).length+x1.scopes.length)*8≤140737488355328)) <|
 zbC fuel x1 x2 0 0 ([]:List Form))
end
def zdt (fuel:Nat) (x1:Form) (x2:(List Hit)):Option (Form × Bool) :=
 (zbI fuel x1).bind fun v1 =>
 (zc6 fuel v1 x2).bind fun v2 =>
 (bif (!v2) then
 some ((Form.mk 0 (⟨#[]⟩:ByteArray) 0 ([]:List Int) ([]:List Form)),false)
 else
 (zda fuel v1 x2).bind fun v4 =>
 (bif (!v4.2) then
 some ((Form.mk 0 (⟨#[]⟩:ByteArray) 0 ([]:List Int) ([]:List Form)),false)
 else
 (zaF fuel v4.1).bind fun v6 =>
 (bif (!v6) then
 some ((Form.mk 0 (⟨#[]⟩:ByteArray) 0 ([]:List Int) ([]:List Form)),false)
 else
 some (v4.1,true))))
def zdP (fuel:Nat) (x1:List Int) (x2:Int):Option (Int × Bool) :=
 chk (decide (x1.length < 4611686018427387904)) <|
 chk (decide (x1.Pairwise (·≤·))) <|
 some ((x1.countP (· < x2):Nat),x1.contains x2)
def zfJ (fuel:Nat) (x1:List Int) (x2:Int) (x3:List Int):Option (List Int) :=
 chk (decide (0≤x2)) <|
 chk (decide (x2≤x1.length)) <|
 chk (decide ((x1.length+1)*8≤140737488355328)) <|
 chk (decide (x3.length=1)) <|
 some (x1.take x2.toNat++x3++x1.drop x2.toNat)
def zey (fuel:Nat) (x1:(List Int)) (x2:Int):Option (List Int) :=
 (zdP fuel x1 x2).bind fun v1 =>
 (bif v1.2 then
 some x1
 else
 (zfJ fuel x1 v1.1 [x2]).bind fun v3 =>
 some v3)
def zfg (fuel:Nat) (x1:(List Int)) (o1:Int):Option (List Int) :=
 (zey fuel x1 o1).bind fun v1 =>
 some v1
mutual
def zaE (fuel:Nat) (x1:Form) (o1:Int):Option Form :=
 match fuel with
 | 0=>none
 | fuel+1 =>
 (bif (decide (x1.kind=1)) then
 (zcW fuel x1.scopes).bind fun v2 =>
 (zfg fuel v2 o1).bind fun v3 =>
 zaB fuel x1 o1 v3
 else
 zaB fuel x1 o1 ([]:List Int))
def zaA (fuel:Nat) (x1:Form) (o1:Int) (g4:(List Int)) (g6:Int) (g7:(List Form)):Option Form :=
 match fuel with
 | 0=>none
 | fuel+1 =>
 (bif (decide (g6 < (x1.kids.length:Int))) then
 (idx x1.kids g6).bind fun v11 =>
 (zaE fuel v11 o1).bind fun v12 =>
 chk (decide ((g7.length+[v12].length)*80≤140737488355328)) <|
 zaA fuel x1 o1 g4 (g6+1) (g7++[v12])
 else
 some (Form.mk x1.kind x1.name x1.n g4 g7))
def zaB (fuel:Nat) (x1:Form) (o1:Int) (g4:(List Int)):Option Form :=
 match fuel with
 | 0=>none
 | fuel+1 =>
 zaA fuel x1 o1 g4 0 ([]:List Form)
end
def zal (fuel:Nat) (x1:Form) (o1:Int) (g4:Bool):Option (Form × Bool) :=
 match fuel with
 | 0=>none
 | fuel+1 =>
 (bif g4 then
 some ((Form.mk 0 (⟨#[]⟩:ByteArray) 0 ([]:List Int) ([]:List Form)),false)
 else
 (zaE fuel x1 o1).bind fun v7 =>
 (zff fuel v7).bind fun v8 =>
 some (v8.1,v8.2))
def zcy (fuel:Nat) (x1:Form) (x2:Int) (o1:Int):Option (Form × Bool) :=
 (zbX fuel x1).bind fun v1 =>
 (bif (!v1) then
 zal fuel x1 o1 true
 else
 (zdb fuel x2 1 99).bind fun v3 =>
 zal fuel x1 o1 (!v3))
def zdZ (fuel:Nat) (x1:Form) (x2:Int):Option (Form × Bool) :=
 (zcy fuel x1 x2 x2).bind fun v1 =>
 some (v1.1,v1.2)
mutual
def zb4 (fuel:Nat) (g15:Bool):Option Bool :=
 match fuel with
 | 0=>none
 | fuel+1 =>
 some g15
def zaC (fuel:Nat) (v3:Form × (List Hit)) (v4:Form × Bool) (v5:Form × Bool) (g10:Bool):Option Bool :=
 match fuel with
 | 0=>none
 | fuel+1 =>
 (bif g10 then
 (zaz fuel v4.1 v5.1).bind fun v13 =>
 (bif v13 then
 zb4 fuel  (decide (v4.2=v5.2))
 else
 zb4 fuel  false)
 else
 (zdZ fuel v3.1 66).bind fun v17 =>
 (zdZ fuel v4.1 66).bind fun v18 =>
 (zcF fuel v17.1 ([]:List Hit)).bind fun v19 =>
 (bif (!v17.2) then
 some true
 else
 (bif (!v18.2) then
 some true
 else
 (bif v19.2 then
 (zaz fuel v19.1 v18.1).bind fun v23 =>
 some v23
 else
 some false))))
end
def zeO (fuel:Nat) (x1:(List Int)):Option Bool :=
 (bif (decide (1048576 < (x1.length:Int))) then
 some true
 else
 (zcd fuel x1).bind fun v3 =>
 (zcF fuel v3.1 v3.2).bind fun v4 =>
 (zdt fuel v3.1 v3.2).bind fun v5 =>
 (zaz fuel v4.1 v5.1).bind fun v6 =>
 (bif (!v6) then
 zaC fuel v3 v4 v5 true
 else
 (bif (decide (v4.2≠v5.2)) then
 zaC fuel v3 v4 v5 true
 else
 (bif (!v4.2) then
 zaC fuel v3 v4 v5 true
 else
 zaC fuel v3 v4 v5 (decide (0 < (v3.2.length:Int)))))))
end Go.Abs
