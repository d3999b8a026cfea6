/- A part of the proof: what the functions that the law calls answer, as pure values. -/
import Derived.Test.YtcebadpiebamdaaGreatK403ef3ea41a7
import Derived.Test.YtcebadpiebamdaaGreatKfd88efc704ec
import Derived.Test.YtcebadpiebamdaaGreatK331fa2d90bd9
set_option linter.unusedSimpArgs false
set_option linter.unusedVariables false
set_option maxHeartbeats 4000000
namespace Go.Abs
mutual
def jS (fuel:Nat) (x1:(List aH)) (x2:aB) (x3:(List aB)) (x4:aB):Option ((List Hit) × Bool) :=
 match fuel with
 | 0=>none
 | fuel+1 =>
 (bif (decide (x2.kind=1)) then
 (bif (decide (x2.name=(⟨#[95]⟩:ByteArray))) then
 some (([]:List Hit),true)
 else
 (qJ fuel x3 x2).bind fun v3 =>
 (bif v3 then
 (k7 fuel x1 x2 x4).bind fun v5 =>
 some (([]:List Hit),v5)
 else
 (bR fuel x2).bind fun v6 =>
 (bR fuel x4).bind fun v7 =>
 some ([(Hit.mk v6 0 v7 ([]:List Hit))],true)))
 else
 (bif (decide (x2.kind=2)) then
 (cD fuel x2 x4).bind fun v9 =>
 some (([]:List Hit),v9)
 else
 (bif (decide (x4.kind≠3)) then
 some (([]:List Hit),false)
 else
 (oL fuel x2.kids).bind fun v11 =>
 (bif (decide (v11 < 0)) then
 (bif (decide ((x2.kids.length:Int)≠(x4.kids.length:Int))) then
 some (([]:List Hit),false)
 else
 jZ fuel x1 x2 x3 x4 0 ([]:List Hit))
 else
 (bif (decide ((w64 ((x4.kids.length:Int)-(w64 ((x2.kids.length:Int)-2)))) < 0)) then
 some (([]:List Hit),false)
 else
 jY fuel x1 x2 x3 x4 v11 0 ([]:List Hit))))))
def jZ (fuel:Nat) (x1:(List aH)) (x2:aB) (x3:(List aB)) (x4:aB) (g14:Int) (g15:(List Hit)):Option ((List Hit) × Bool) :=
 match fuel with
 | 0=>none
 | fuel+1 =>
 (bif (decide (g14 < (x2.kids.length:Int))) then
 (idx x2.kids g14).bind fun v19 =>
 (idx x4.kids g14).bind fun v20 =>
 (lO fuel v19 v20 x1 x3 g15).bind fun v21 =>
 (bif (!v21.1) then
 some (([]:List Hit),false)
 else
 jZ fuel x1 x2 x3 x4 (g14+1) v21.2)
 else
 qQ fuel  g15)
def qQ (fuel:Nat) (g23:(List Hit)):Option ((List Hit) × Bool) :=
 match fuel with
 | 0=>none
 | fuel+1 =>
 some (g23,true)
def jY (fuel:Nat) (x1:(List aH)) (x2:aB) (x3:(List aB)) (x4:aB) (v11:Int) (g26:Int) (g27:(List Hit)):Option ((List Hit) × Bool) :=
 match fuel with
 | 0=>none
 | fuel+1 =>
 (bif (decide (g26 < (w64 (v11-1)))) then
 (idx x2.kids g26).bind fun v30 =>
 (idx x4.kids g26).bind fun v31 =>
 (lO fuel v30 v31 x1 x3 g27).bind fun v32 =>
 (bif (!v32.1) then
 some (([]:List Hit),false)
 else
 jY fuel x1 x2 x3 x4 v11 (w64 (g26+1)) v32.2)
 else
 nV fuel x1 x2 x3 x4 v11 g27)
def iK (fuel:Nat) (x1:(List aH)) (x2:aB) (x3:(List aB)) (x4:aB) (v11:Int) (g34:(List Hit)) (v37:(List aB) × (List Int)) (g38:(List Hit)) (g39:Int):Option ((List Hit) × Bool) :=
 match fuel with
 | 0=>none
 | fuel+1 =>
 (bif (decide (g39 < (v37.1.length:Int))) then
 (idx v37.1 g39).bind fun v43 =>
 (bR fuel v43).bind fun v44 =>
 (idx v37.2 g39).bind fun v45 =>
 chk (decide ((g38.length+[(Hit.mk v44 (w64 (v45+1)) (aB.mk 0 (⟨#[]⟩:ByteArray) 0 ([]:List Int) ([]:List aB)) ([]:List Hit))].length)*192<=140737488355328)) <|
 iK fuel x1 x2 x3 x4 v11 g34 v37 (g38++[(Hit.mk v44 (w64 (v45+1)) (aB.mk 0 (⟨#[]⟩:ByteArray) 0 ([]:List Int) ([]:List aB)) ([]:List Hit))]) (g39+1)
 else
 nU fuel x1 x2 x3 x4 v11 g34 g38)
def iJ (fuel:Nat) (x1:(List aH)) (x2:aB) (x3:(List aB)) (x4:aB) (v11:Int) (g34:(List Hit)) (v49:(List aB)) (g50:Int) (g51:(List Hit)) (v57:(List Hit) × Bool) (g59:Int) (g60:(List Hit)):Option ((List Hit) × Bool) :=
 match fuel with
 | 0=>none
 | fuel+1 =>
 (bif (decide (g59 < (g51.length:Int))) then
 (idx g60 g59).bind fun v63 =>
 (idx v57.1 g59).bind fun v64 =>
 chk (decide ((v63.many.length+[(Hit.mk (aB.mk 0 (⟨#[]⟩:ByteArray) 0 ([]:List Int) ([]:List aB)) 0 (aB.mk 0 (⟨#[]⟩:ByteArray) 0 ([]:List Int) ([]:List aB)) ([]:List Hit))].length)*192<=140737488355328)) <|
 (idx (v63.many++[(Hit.mk (aB.mk 0 (⟨#[]⟩:ByteArray) 0 ([]:List Int) ([]:List aB)) 0 (aB.mk 0 (⟨#[]⟩:ByteArray) 0 ([]:List Int) ([]:List aB)) ([]:List Hit))]) (v63.many.length:Int)).bind fun v66 =>
 (idx g60 g59).bind fun v67 =>
 iJ fuel x1 x2 x3 x4 v11 g34 v49 g50 g51 v57 (w64 (g59+1)) (g60.set g59.toNat (Hit.mk v63.name v63.depth v63.one ((v63.many++[(Hit.mk (aB.mk 0 (⟨#[]⟩:ByteArray) 0 ([]:List Int) ([]:List aB)) 0 (aB.mk 0 (⟨#[]⟩:ByteArray) 0 ([]:List Int) ([]:List aB)) ([]:List Hit))]).set (v63.many.length:Int).toNat v64)))
 else
 gJ fuel x1 x2 x3 x4 v11 g34 v49 (w64 (g50+1)) g60)
def gJ (fuel:Nat) (x1:(List aH)) (x2:aB) (x3:(List aB)) (x4:aB) (v11:Int) (g34:(List Hit)) (v49:(List aB)) (g50:Int) (g51:(List Hit)):Option ((List Hit) × Bool) :=
 match fuel with
 | 0=>none
 | fuel+1 =>
 (bif (decide (g50 < (v49.length:Int))) then
 (idx v49 g50).bind fun v55 =>
 (idx x2.kids (w64 (v11-1))).bind fun v56 =>
 (jS fuel x1 v56 x3 v55).bind fun v57 =>
 (bif (!v57.2) then
 some (([]:List Hit),false)
 else
 iJ fuel x1 x2 x3 x4 v11 g34 v49 g50 g51 v57 0 g51)
 else
 lZ fuel x1 x2 x3 x4 v11 g34 g51)
def i5 (fuel:Nat) (x1:(List aH)) (x2:aB) (x3:(List aB)) (x4:aB) (v11:Int) (g71:Int) (g72:(List Hit)):Option ((List Hit) × Bool) :=
 match fuel with
 | 0=>none
 | fuel+1 =>
 (bif (decide (g71 < (x2.kids.length:Int))) then
 (idx x2.kids g71).bind fun v76 =>
 (idx x4.kids (w64 ((w64 ((w64 ((w64 ((w64 (v11-1))+(w64 ((x4.kids.length:Int)-(w64 ((x2.kids.length:Int)-2))))))+g71))-v11))-1))).bind fun v77 =>
 (lO fuel v76 v77 x1 x3 g72).bind fun v78 =>
 (bif (!v78.1) then
 some (([]:List Hit),false)
 else
 i5 fuel x1 x2 x3 x4 v11 (g71+1) v78.2)
 else
 some (g72,true))
def lZ (fuel:Nat) (x1:(List aH)) (x2:aB) (x3:(List aB)) (x4:aB) (v11:Int) (g34:(List Hit)) (g68:(List Hit)):Option ((List Hit) × Bool) :=
 match fuel with
 | 0=>none
 | fuel+1 =>
 chk (decide ((g34.length+g68.length)*192<=140737488355328)) <|
 i5 fuel x1 x2 x3 x4 v11 (w64 (v11+1)) (g34++g68)
def nU (fuel:Nat) (x1:(List aH)) (x2:aB) (x3:(List aB)) (x4:aB) (v11:Int) (g34:(List Hit)) (g47:(List Hit)):Option ((List Hit) × Bool) :=
 match fuel with
 | 0=>none
 | fuel+1 =>
 (sub x4.kids (w64 (v11-1)) (w64 ((w64 (v11-1))+(w64 ((x4.kids.length:Int)-(w64 ((x2.kids.length:Int)-2))))))).bind fun v49 =>
 gJ fuel x1 x2 x3 x4 v11 g34 v49 0 g47
def nV (fuel:Nat) (x1:(List aH)) (x2:aB) (x3:(List aB)) (x4:aB) (v11:Int) (g34:(List Hit)):Option ((List Hit) × Bool) :=
 match fuel with
 | 0=>none
 | fuel+1 =>
 (idx x2.kids (w64 (v11-1))).bind fun v36 =>
 (oJ fuel v36 x3).bind fun v37 =>
 iK fuel x1 x2 x3 x4 v11 g34 v37 ([]:List Hit) 0
def lO (fuel:Nat) (x1:aB) (x2:aB) (o1:(List aH)) (o2:(List aB)) (o3:(List Hit)):Option (Bool × (List Hit)) :=
 match fuel with
 | 0=>none
 | fuel+1 =>
 (jS fuel o1 x1 o2 x2).bind fun v1 =>
 chk (decide ((o3.length+v1.1.length)*192<=140737488355328)) <|
 some (v1.2,(o3++v1.1))
end
mutual
def j7 (fuel:Nat) (x1:aB):Option Int :=
 match fuel with
 | 0=>none
 | fuel+1 =>
 gA fuel x1 1 0
def gA (fuel:Nat) (x1:aB) (g1:Int) (g2:Int):Option Int :=
 match fuel with
 | 0=>none
 | fuel+1 =>
 (bif (decide (g2 < (x1.kids.length:Int))) then
 (idx x1.kids g2).bind fun v6 =>
 (j7 fuel v6).bind fun v7 =>
 gA fuel x1 (w64 (g1+v7)) (g2+1)
 else
 some g1)
end
mutual
def gT (fuel:Nat) (x1:(List aH)) (x2:(List aI)) (x3:(List aB)) (x4:aB) (g9:Int):Option (Int × Bool) :=
 match fuel with
 | 0=>none
 | fuel+1 =>
 (bif (decide (g9 < (x2.length:Int))) then
 (idx x2 g9).bind fun v13 =>
 (jS fuel x1 v13.pattern x3 x4).bind fun v14 =>
 (bif v14.2 then
 some (g9,true)
 else
 gT fuel x1 x2 x3 x4 (g9+1))
 else
 some (0,false))
def eA (fuel:Nat) (x1:(List aH)) (x2:(List aI)) (x3:(List aB)) (x4:aB) (g6:Bool):Option (Int × Bool) :=
 match fuel with
 | 0=>none
 | fuel+1 =>
 (bif g6 then
 some (0,false)
 else
 gT fuel x1 x2 x3 x4 0)
end
def pH (fuel:Nat) (x1:(List aH)) (x2:(List aI)) (x3:(List aB)) (x4:aB):Option (Int × Bool) :=
 (jF fuel x1).bind fun v1 =>
 (bif (!v1) then
 eA fuel x1 x2 x3 x4 true
 else
 (sD fuel x2 x3).bind fun v3 =>
 (bif (!v3) then
 eA fuel x1 x2 x3 x4 true
 else
 (fS fuel x4).bind fun v5 =>
 eA fuel x1 x2 x3 x4 (!v5)))
def wQ (fuel:Nat) (x1:aB) (o1:Bool) (o2:Hit):Option Bool :=
 (bif o1 then
 some true
 else
 (cD fuel x1 o2.name).bind fun v2 =>
 some v2)
mutual
def dE (fuel:Nat) (x1:aB) (o1:Bool) (o2:Hit):Option Bool :=
 match fuel with
 | 0=>none
 | fuel+1 =>
 (wQ fuel x1 o1 o2).bind fun v1 =>
 b8 fuel x1 o2 0 v1
def b8 (fuel:Nat) (x1:aB) (o2:Hit) (g2:Int) (g3:Bool):Option Bool :=
 match fuel with
 | 0=>none
 | fuel+1 =>
 (bif (decide (g2 < (x1.kids.length:Int))) then
 (idx x1.kids g2).bind fun v7 =>
 (dE fuel v7 g3 o2).bind fun v8 =>
 b8 fuel x1 o2 (g2+1) v8
 else
 some g3)
end
def pX (fuel:Nat) (x1:(List Hit)):Option (List Hit) :=
 chk (decide ((([]:List Hit).length+x1.length)*192<=140737488355328)) <|
 some (([]:List Hit)++x1)
mutual
def nE (fuel:Nat) (x1:aB) (x2:(List Hit)):Option (aB × Bool) :=
 match fuel with
 | 0=>none
 | fuel+1 =>
 (bif (decide (x1.kind=1)) then
 (qK fuel x2 x1).bind fun v2 =>
 (bif (decide (0<=v2)) then
 (idx x2 v2).bind fun v4 =>
 (bR fuel v4.one).bind fun v5 =>
 some (v5,true)
 else
 (bR fuel x1).bind fun v6 =>
 some (v6,true))
 else
 gH fuel x1 x2 0 x1.kind (⟨#[]⟩:ByteArray) x1.n ([]:List Int) ([]:List aB) 0)
def lQ (fuel:Nat) (x1:aB) (x2:(List Hit)) (g7:Int) (g8:Int) (g9:ByteArray) (g10:Int) (g11:(List Int)) (g12:(List aB)) (g13:Int) (v17:aB) (g28:Int) (g29:(List Int)) (v34:Hit) (g42:Bool):Option (aB × Bool) :=
 match fuel with
 | 0=>none
 | fuel+1 =>
 (bif g42 then
 some ((aB.mk 0 (⟨#[]⟩:ByteArray) 0 ([]:List Int) ([]:List aB)),false)
 else
 iE fuel x1 x2 g7 g8 g9 g10 g11 g12 g13 v17 (g28+1) (g29++[g28]) (v34.many.length:Int))
def lR (fuel:Nat) (x1:aB) (x2:(List Hit)) (g7:Int) (g8:Int) (g9:ByteArray) (g10:Int) (g11:(List Int)) (g12:(List aB)) (g13:Int) (v17:aB) (g28:Int) (g29:(List Int)) (g30:Int) (v34:Hit) (g37:Bool):Option (aB × Bool) :=
 match fuel with
 | 0=>none
 | fuel+1 =>
 (bif g37 then
 iE fuel x1 x2 g7 g8 g9 g10 g11 g12 g13 v17 (g28+1) g29 g30
 else
 chk (decide ((g29.length+[g28].length)*8<=140737488355328)) <|
 (bif (decide (0<=g30)) then
 lQ fuel x1 x2 g7 g8 g9 g10 g11 g12 g13 v17 g28 g29 v34 (decide (g30≠(v34.many.length:Int)))
 else
 lQ fuel x1 x2 g7 g8 g9 g10 g11 g12 g13 v17 g28 g29 v34 false))
def iE (fuel:Nat) (x1:aB) (x2:(List Hit)) (g7:Int) (g8:Int) (g9:ByteArray) (g10:Int) (g11:(List Int)) (g12:(List aB)) (g13:Int) (v17:aB) (g28:Int) (g29:(List Int)) (g30:Int):Option (aB × Bool) :=
 match fuel with
 | 0=>none
 | fuel+1 =>
 (bif (decide (g28 < (x2.length:Int))) then
 (idx x2 g28).bind fun v34 =>
 (dE fuel v17 false v34).bind fun v35 =>
 (bif (!v35) then
 lR fuel x1 x2 g7 g8 g9 g10 g11 g12 g13 v17 g28 g29 g30 v34 true
 else
 lR fuel x1 x2 g7 g8 g9 g10 g11 g12 g13 v17 g28 g29 g30 v34 (decide (v34.depth=0)))
 else
 pO fuel x1 x2 g7 g8 g9 g10 g11 g12 g13 v17 g30 g29)
def jN (fuel:Nat) (x1:aB) (x2:(List Hit)) (g7:Int) (v17:aB) (g45:Int) (g46:(List Int)) (g48:Int) (g49:Int) (g50:ByteArray) (g51:Int) (g52:(List Int)) (g53:(List aB)) (g54:Int) (g58:Int) (g59:(List Hit)):Option (aB × Bool) :=
 match fuel with
 | 0=>none
 | fuel+1 =>
 (bif (decide (g58 < (g46.length:Int))) then
 (idx g46 g58).bind fun v63 =>
 (idx x2 v63).bind fun v64 =>
 (idx v64.many g48).bind fun v65 =>
 (idx g59 v63).bind fun v66 =>
 jN fuel x1 x2 g7 v17 g45 g46 g48 g49 g50 g51 g52 g53 g54 (g58+1) (g59.set v63.toNat v65)
 else
 pN fuel x1 x2 g7 v17 g45 g46 g48 g49 g50 g51 g52 g53 g54 g59)
def pN (fuel:Nat) (x1:aB) (x2:(List Hit)) (g7:Int) (v17:aB) (g45:Int) (g46:(List Int)) (g48:Int) (g49:Int) (g50:ByteArray) (g51:Int) (g52:(List Int)) (g53:(List aB)) (g54:Int) (g67:(List Hit)):Option (aB × Bool) :=
 match fuel with
 | 0=>none
 | fuel+1 =>
 (mY fuel v17 g67 g54 (aB.mk g49 g50 g51 g52 g53)).bind fun v69 =>
 (bif (!v69.1) then
 some ((aB.mk 0 (⟨#[]⟩:ByteArray) 0 ([]:List Int) ([]:List aB)),false)
 else
 lP fuel x1 x2 g7 v17 g45 g46 (w64 (g48+1)) v69.2.2.kind v69.2.2.name v69.2.2.n v69.2.2.scopes v69.2.2.kids v69.2.1)
def lP (fuel:Nat) (x1:aB) (x2:(List Hit)) (g7:Int) (v17:aB) (g45:Int) (g46:(List Int)) (g48:Int) (g49:Int) (g50:ByteArray) (g51:Int) (g52:(List Int)) (g53:(List aB)) (g54:Int):Option (aB × Bool) :=
 match fuel with
 | 0=>none
 | fuel+1 =>
 (bif (decide (g48 < g45)) then
 (pX fuel x2).bind fun v57 =>
 jN fuel x1 x2 g7 v17 g45 g46 g48 g49 g50 g51 g52 g53 g54 0 v57
 else
 gH fuel x1 x2 (w64 (g7+1)) g49 g50 g51 g52 g53 g54)
def pO (fuel:Nat) (x1:aB) (x2:(List Hit)) (g7:Int) (g8:Int) (g9:ByteArray) (g10:Int) (g11:(List Int)) (g12:(List aB)) (g13:Int) (v17:aB) (g45:Int) (g46:(List Int)):Option (aB × Bool) :=
 match fuel with
 | 0=>none
 | fuel+1 =>
 lP fuel x1 x2 g7 v17 g45 g46 0 g8 g9 g10 g11 g12 g13
def gI (fuel:Nat) (x1:aB) (x2:(List Hit)) (g7:Int) (g8:Int) (g9:ByteArray) (g10:Int) (g11:(List Int)) (g12:(List aB)) (g13:Int) (v17:aB) (g23:Bool):Option (aB × Bool) :=
 match fuel with
 | 0=>none
 | fuel+1 =>
 (bif g23 then
 (mY fuel v17 x2 g13 (aB.mk g8 g9 g10 g11 g12)).bind fun v26 =>
 (bif (!v26.1) then
 some ((aB.mk 0 (⟨#[]⟩:ByteArray) 0 ([]:List Int) ([]:List aB)),false)
 else
 gH fuel x1 x2 (g7+1) v26.2.2.kind v26.2.2.name v26.2.2.n v26.2.2.scopes v26.2.2.kids v26.2.1)
 else
 iE fuel x1 x2 g7 g8 g9 g10 g11 g12 g13 v17 0 ([]:List Int) (-1))
def gH (fuel:Nat) (x1:aB) (x2:(List Hit)) (g7:Int) (g8:Int) (g9:ByteArray) (g10:Int) (g11:(List Int)) (g12:(List aB)) (g13:Int):Option (aB × Bool) :=
 match fuel with
 | 0=>none
 | fuel+1 =>
 (bif (decide (g7 < (x1.kids.length:Int))) then
 (idx x1.kids g7).bind fun v17 =>
 (f7 fuel v17 (⟨#[46,46,46]⟩:ByteArray)).bind fun v18 =>
 (bif v18 then
 gH fuel x1 x2 (g7+1) g8 g9 g10 g11 g12 g13
 else
 (bif (decide ((g7+1)=(x1.kids.length:Int))) then
 gI fuel x1 x2 g7 g8 g9 g10 g11 g12 g13 v17 true
 else
 (idx x1.kids (g7+1)).bind fun v21 =>
 (f7 fuel v21 (⟨#[46,46,46]⟩:ByteArray)).bind fun v22 =>
 gI fuel x1 x2 g7 g8 g9 g10 g11 g12 g13 v17 (!v22)))
 else
 some ((aB.mk g8 g9 g10 g11 g12),true))
def mY (fuel:Nat) (x1:aB) (x2:(List Hit)) (o1:Int) (o2:aB):Option (Bool × Int × aB) :=
 match fuel with
 | 0=>none
 | fuel+1 =>
 (nE fuel x1 x2).bind fun v1 =>
 (bif (!v1.2) then
 some (false,o1,o2)
 else
 (j7 fuel v1.1).bind fun v3 =>
 chk (decide ((o2.kids.length+[(aB.mk 0 (⟨#[]⟩:ByteArray) 0 ([]:List Int) ([]:List aB))].length)*80<=140737488355328)) <|
 (idx (o2.kids++[(aB.mk 0 (⟨#[]⟩:ByteArray) 0 ([]:List Int) ([]:List aB))]) (o2.kids.length:Int)).bind fun v5 =>
 some ((decide ((w64 (o1+v3))<=400)),(w64 (o1+v3)),(aB.mk o2.kind o2.name o2.n o2.scopes ((o2.kids++[(aB.mk 0 (⟨#[]⟩:ByteArray) 0 ([]:List Int) ([]:List aB))]).set (o2.kids.length:Int).toNat v1.1))))
end
def rJ (fuel:Nat) (x1:aB):Option (aB × Bool) :=
 (fS fuel x1).bind fun v1 =>
 (bif (!v1) then
 some ((aB.mk 0 (⟨#[]⟩:ByteArray) 0 ([]:List Int) ([]:List aB)),false)
 else
 (bR fuel x1).bind fun v3 =>
 some (v3,true))
def gU (fuel:Nat) (x1:aB) (x2:(List Hit)):Option (aB × Bool) :=
 (k6 fuel x1 x2).bind fun v1 =>
 (bif (!v1) then
 some ((aB.mk 0 (⟨#[]⟩:ByteArray) 0 ([]:List Int) ([]:List aB)),false)
 else
 (nE fuel x1 x2).bind fun v3 =>
 (bif (!v3.2) then
 some ((aB.mk 0 (⟨#[]⟩:ByteArray) 0 ([]:List Int) ([]:List aB)),false)
 else
 (rJ fuel v3.1).bind fun v5 =>
 some (v5.1,v5.2)))
mutual
def mU (fuel:Nat) (x1:aB) (x2:aB):Option Bool :=
 match fuel with
 | 0=>none
 | fuel+1 =>
 (bif (decide (x1.kind=1)) then
 (cY fuel x1 x2).bind fun v2 =>
 (bif v2 then
 some true
 else
 kQ fuel x1 x2 )
 else
 kQ fuel x1 x2 )
def iQ (fuel:Nat) (x1:aB) (x2:aB) (g5:Int):Option Bool :=
 match fuel with
 | 0=>none
 | fuel+1 =>
 (bif (decide (g5 < (x1.kids.length:Int))) then
 (idx x1.kids g5).bind fun v9 =>
 (mU fuel v9 x2).bind fun v10 =>
 (bif v10 then
 some true
 else
 iQ fuel x1 x2 (g5+1))
 else
 some false)
def kQ (fuel:Nat) (x1:aB) (x2:aB):Option Bool :=
 match fuel with
 | 0=>none
 | fuel+1 =>
 iQ fuel x1 x2 0
end
mutual
def jA (fuel:Nat) (x1:aB) (x2:(List Hit)) (g1:Int):Option Int :=
 match fuel with
 | 0=>none
 | fuel+1 =>
 (idx x2 g1).bind fun v17 =>
 fW fuel x1 x2 (g1+1) (v17.many.length:Int)
def hH (fuel:Nat) (x1:aB) (x2:(List Hit)) (g1:Int) (g2:Int) (g10:Bool):Option Int :=
 match fuel with
 | 0=>none
 | fuel+1 =>
 (bif g10 then
 fW fuel x1 x2 (g1+1) g2
 else
 (bif (decide (0<=g2)) then
 (idx x2 g1).bind fun v14 =>
 (bif (decide (g2≠(v14.many.length:Int))) then
 some (-1)
 else
 jA fuel x1 x2 g1 )
 else
 jA fuel x1 x2 g1 ))
def fW (fuel:Nat) (x1:aB) (x2:(List Hit)) (g1:Int) (g2:Int):Option Int :=
 match fuel with
 | 0=>none
 | fuel+1 =>
 (bif (decide (g1 < (x2.length:Int))) then
 (idx x2 g1).bind fun v6 =>
 (bif (decide (v6.depth=0)) then
 hH fuel x1 x2 g1 g2 true
 else
 (idx x2 g1).bind fun v8 =>
 (mU fuel x1 v8.name).bind fun v9 =>
 hH fuel x1 x2 g1 g2 (!v9))
 else
 some g2)
end
def r8 (fuel:Nat) (x1:aB) (x2:(List Hit)):Option Int :=
 fW fuel x1 x2 0 (-1)
mutual
def jU (fuel:Nat) (x1:aB) (x2:(List Hit)) (x3:Int) (g1:(List Hit)) (g2:Int) (v6:Hit) (g9:Bool):Option (List Hit) :=
 match fuel with
 | 0=>none
 | fuel+1 =>
 (bif g9 then
 (idx v6.many x3).bind fun v12 =>
 chk (decide ((g1.length+[v12].length)*192<=140737488355328)) <|
 iH fuel x1 x2 x3 (g1++[v12]) (g2+1)
 else
 chk (decide ((g1.length+[v6].length)*192<=140737488355328)) <|
 iH fuel x1 x2 x3 (g1++[v6]) (g2+1))
def iH (fuel:Nat) (x1:aB) (x2:(List Hit)) (x3:Int) (g1:(List Hit)) (g2:Int):Option (List Hit) :=
 match fuel with
 | 0=>none
 | fuel+1 =>
 (bif (decide (g2 < (x2.length:Int))) then
 (idx x2 g2).bind fun v6 =>
 (bif (decide (0 < v6.depth)) then
 (mU fuel x1 v6.name).bind fun v8 =>
 jU fuel x1 x2 x3 g1 g2 v6 v8
 else
 jU fuel x1 x2 x3 g1 g2 v6 false)
 else
 some g1)
end
def tL (fuel:Nat) (x1:aB) (x2:(List Hit)) (x3:Int):Option (List Hit) :=
 iH fuel x1 x2 x3 ([]:List Hit) 0
mutual
def lE (fuel:Nat) (x1:aB) (x2:(List Hit)):Option (aB × Bool) :=
 match fuel with
 | 0=>none
 | fuel+1 =>
 (bif (decide (x1.kind=1)) then
 (oH fuel x2 x1).bind fun v2 =>
 iW fuel x1 x2 v2
 else
 iW fuel x1 x2 (-1))
def iT (fuel:Nat) (x1:aB) (x2:(List Hit)) (g10:Int) (g22:Bool) (g27:Int) (g30:Int) (g31:Int) (g32:(List aB)) (v41:aB × Bool) (v42:Int) (g44:Bool):Option (aB × Bool) :=
 match fuel with
 | 0=>none
 | fuel+1 =>
 (bif g44 then
 some (x1,false)
 else
 chk (decide ((g32.length+[v41.1].length)*80<=140737488355328)) <|
 iS fuel x1 x2 g10 g22 g27 (w64 (g30+v42)) (w64 (g31+1)) (g32++[v41.1]))
def kS (fuel:Nat) (x1:aB) (x2:(List Hit)) (g10:Int) (g22:Bool) (g27:Int) (g30:Int) (g31:Int) (g32:(List aB)) (g38:(List Hit)):Option (aB × Bool) :=
 match fuel with
 | 0=>none
 | fuel+1 =>
 (idx x1.kids g10).bind fun v40 =>
 (lE fuel v40 g38).bind fun v41 =>
 (lM fuel v41.1).bind fun v42 =>
 (bif (!v41.2) then
 iT fuel x1 x2 g10 g22 g27 g30 g31 g32 v41 v42 true
 else
 iT fuel x1 x2 g10 g22 g27 g30 g31 g32 v41 v42 (decide (400 < (w64 (g30+v42)))))
def iS (fuel:Nat) (x1:aB) (x2:(List Hit)) (g10:Int) (g22:Bool) (g27:Int) (g30:Int) (g31:Int) (g32:(List aB)):Option (aB × Bool) :=
 match fuel with
 | 0=>none
 | fuel+1 =>
 (bif (decide (g31 < g27)) then
 (bif g22 then
 (idx x1.kids g10).bind fun v36 =>
 (tL fuel v36 x2 g31).bind fun v37 =>
 kS fuel x1 x2 g10 g22 g27 g30 g31 g32 v37
 else
 kS fuel x1 x2 g10 g22 g27 g30 g31 g32 x2)
 else
 fO fuel x1 x2 (w64 (g10+1)) g30 g32)
def iU (fuel:Nat) (x1:aB) (x2:(List Hit)) (g10:Int) (g11:Int) (g12:(List aB)) (g22:Bool) (g27:Int):Option (aB × Bool) :=
 match fuel with
 | 0=>none
 | fuel+1 =>
 (bif (decide (g27 < 0)) then
 some (x1,false)
 else
 iS fuel x1 x2 g10 g22 g27 g11 0 g12)
def iV (fuel:Nat) (x1:aB) (x2:(List Hit)) (g10:Int) (g11:Int) (g12:(List aB)) (g22:Bool):Option (aB × Bool) :=
 match fuel with
 | 0=>none
 | fuel+1 =>
 (bif g22 then
 (idx x1.kids g10).bind fun v25 =>
 (r8 fuel v25 x2).bind fun v26 =>
 iU fuel x1 x2 g10 g11 g12 g22 v26
 else
 iU fuel x1 x2 g10 g11 g12 g22 1)
def fO (fuel:Nat) (x1:aB) (x2:(List Hit)) (g10:Int) (g11:Int) (g12:(List aB)):Option (aB × Bool) :=
 match fuel with
 | 0=>none
 | fuel+1 =>
 (bif (decide (g10 < (x1.kids.length:Int))) then
 (idx x1.kids g10).bind fun v16 =>
 (dF fuel v16).bind fun v17 =>
 (bif v17 then
 fO fuel x1 x2 (g10+1) g11 g12
 else
 (bif (decide ((g10+1) < (x1.kids.length:Int))) then
 (idx x1.kids (g10+1)).bind fun v20 =>
 (dF fuel v20).bind fun v21 =>
 iV fuel x1 x2 g10 g11 g12 v21
 else
 iV fuel x1 x2 g10 g11 g12 false))
 else
 some ((aB.mk x1.kind x1.name x1.n (([]:List Int)++x1.scopes) g12),true))
def iW (fuel:Nat) (x1:aB) (x2:(List Hit)) (g3:Int):Option (aB × Bool) :=
 match fuel with
 | 0=>none
 | fuel+1 =>
 (bif (decide (0<=g3)) then
 (idx x2 g3).bind fun v6 =>
 (oI fuel v6.one).bind fun v7 =>
 (idx x2 g3).bind fun v8 =>
 some (v7,(decide (v8.depth=0)))
 else
 chk (decide ((([]:List Int).length+x1.scopes.length)*8<=140737488355328)) <|
 fO fuel x1 x2 0 0 ([]:List aB))
end
def hY (fuel:Nat) (x1:(List aH)) (x2:(List aI)) (x3:(List aB)) (x4:aB):Option (aB × Bool) :=
 (pH fuel x1 x2 x3 x4).bind fun v1 =>
 (bif (!v1.2) then
 some ((aB.mk 0 (⟨#[]⟩:ByteArray) 0 ([]:List Int) ([]:List aB)),false)
 else
 (idx x2 v1.1).bind fun v3 =>
 (jS fuel x1 v3.pattern x3 x4).bind fun v4 =>
 (idx x2 v1.1).bind fun v5 =>
 (gU fuel v5.template v4.1).bind fun v6 =>
 some (v6.1,v6.2))
def rN (fuel:Nat) (x1:aI):Option aI :=
 (eJ fuel x1.pattern).bind fun v1 =>
 (eJ fuel x1.template).bind fun v2 =>
 some (aI.mk v1 v2)
def cJ (fuel:Nat) (x1:(List aI)) (g1:(List aI)) (g2:Int):Option (List aI) :=
 match fuel with
 | 0=>none
 | fuel+1 =>
 (bif (decide (g2 < (x1.length:Int))) then
 (idx x1 g2).bind fun v6 =>
 (rN fuel v6).bind fun v7 =>
 chk (decide ((g1.length+[v7].length)*160<=140737488355328)) <|
 cJ fuel x1 (g1++[v7]) (g2+1)
 else
 some g1)
def j9 (fuel:Nat) (x1:(List aI)):Option (List aI) :=
 cJ fuel x1 ([]:List aI) 0
def nZ (fuel:Nat) (x1:(List aH)) (x2:(List aI)) (x3:(List aB)) (x4:aB):Option (aB × Bool) :=
 (j9 fuel x2).bind fun v1 =>
 (oZ fuel x1 v1 x3 x4).bind fun v2 =>
 (bif (!v2.2) then
 some ((aB.mk 0 (⟨#[]⟩:ByteArray) 0 ([]:List Int) ([]:List aB)),false)
 else
 (idx v1 v2.1).bind fun v4 =>
 (gG fuel x1 v4.pattern x3 x4).bind fun v5 =>
 (idx v1 v2.1).bind fun v6 =>
 (lE fuel v6.template v5.1).bind fun v7 =>
 (bif (!v7.2) then
 some ((aB.mk 0 (⟨#[]⟩:ByteArray) 0 ([]:List Int) ([]:List aB)),false)
 else
 (gN fuel v7.1).bind fun v9 =>
 (bif (!v9) then
 some ((aB.mk 0 (⟨#[]⟩:ByteArray) 0 ([]:List Int) ([]:List aB)),false)
 else
 some (v7.1,true))))
def f8 (fuel:Nat) (g1:Int) (g2:Int) (g3:(List Int)):Option (Int × (List Int)) :=
 match fuel with
 | 0=>none
 | fuel+1 =>
 (bif (decide (g2 < (g3.length:Int))) then
 (idx g3 g2).bind fun v7 =>
 f8 fuel  (w64 (g1+1)) (g2+1) (g3.set g2.toNat g1)
 else
 some (g1,g3))
def iI (fuel:Nat) (x1:(List Int)) (x2:Int):Option (Int × (List Int)) :=
 f8 fuel  x2 0 x1
def eZ (fuel:Nat) (g2:Int) (g3:ByteArray):Option ByteArray :=
 match fuel with
 | 0=>none
 | fuel+1 =>
 (bif (decide (0 < g2)) then
 (zrr (zes [(w8 (w64 (48+(g2.tmod 10))))]) g3).bind fun v6 =>
 eZ fuel  (w64 (g2.tdiv 10)) v6
 else
 (zrr (⟨#[109]⟩:ByteArray) g3).bind fun v7 =>
 some v7)
def eE (fuel:Nat) (x1:Int):Option ByteArray :=
 (bif (decide (x1<=0)) then
 some (⟨#[109,48]⟩:ByteArray)
 else
 eZ fuel  x1 (⟨#[]⟩:ByteArray))
mutual
def cV (fuel:Nat) (x1:(List aB)) (x2:Int):Option (Int × (List aB)) :=
 match fuel with
 | 0=>none
 | fuel+1 =>
 fI fuel  x2 0 x1
def fI (fuel:Nat) (g1:Int) (g2:Int) (g3:(List aB)):Option (Int × (List aB)) :=
 match fuel with
 | 0=>none
 | fuel+1 =>
 (bif (decide (g2 < (g3.length:Int))) then
 (idx g3 g2).bind fun v6 =>
 (eE fuel (w64 (g1+1))).bind fun v7 =>
 (idx (g3.set g2.toNat (aB.mk g1 v6.name v6.n v6.scopes v6.kids)) g2).bind fun v8 =>
 (idx ((g3.set g2.toNat (aB.mk g1 v6.name v6.n v6.scopes v6.kids)).set g2.toNat (aB.mk v8.kind v7 v8.n v8.scopes v8.kids)) g2).bind fun v9 =>
 (idx (((g3.set g2.toNat (aB.mk g1 v6.name v6.n v6.scopes v6.kids)).set g2.toNat (aB.mk v8.kind v7 v8.n v8.scopes v8.kids)).set g2.toNat (aB.mk v9.kind v9.name (w64 ((w64 (g1+1))+1)) v9.scopes v9.kids)) g2).bind fun v10 =>
 (iI fuel v10.scopes (w64 ((w64 ((w64 (g1+1))+1))+1))).bind fun v11 =>
 (idx ((((g3.set g2.toNat (aB.mk g1 v6.name v6.n v6.scopes v6.kids)).set g2.toNat (aB.mk v8.kind v7 v8.n v8.scopes v8.kids)).set g2.toNat (aB.mk v9.kind v9.name (w64 ((w64 (g1+1))+1)) v9.scopes v9.kids)).set g2.toNat (aB.mk v10.kind v10.name v10.n v11.2 v10.kids)) g2).bind fun v12 =>
 (cV fuel v12.kids v11.1).bind fun v13 =>
 fI fuel  v13.1 (w64 (g2+1)) (((((g3.set g2.toNat (aB.mk g1 v6.name v6.n v6.scopes v6.kids)).set g2.toNat (aB.mk v8.kind v7 v8.n v8.scopes v8.kids)).set g2.toNat (aB.mk v9.kind v9.name (w64 ((w64 (g1+1))+1)) v9.scopes v9.kids)).set g2.toNat (aB.mk v10.kind v10.name v10.n v11.2 v10.kids)).set g2.toNat (aB.mk v12.kind v12.name v12.n v12.scopes v13.2))
 else
 some (g1,g3))
end
def nR (fuel:Nat) (x1:aB) (x2:Int):Option (Int × (List Int) × (List aB)) :=
 (iI fuel x1.scopes x2).bind fun v1 =>
 (cV fuel x1.kids v1.1).bind fun v2 =>
 some (v2.1,v1.2,v2.2)
def f9 (fuel:Nat) (x1:(List Int)) (g1:Int) (g2:Int):Option Int :=
 match fuel with
 | 0=>none
 | fuel+1 =>
 (bif (decide (g2 < (x1.length:Int))) then
 (idx x1 g2).bind fun v6 =>
 (bif (decide (v6≠g1)) then
 some (-1)
 else
 f9 fuel x1 (w64 (g1+1)) (g2+1))
 else
 some g1)
def jX (fuel:Nat) (x1:(List Int)) (x2:Int):Option Int :=
 f9 fuel x1 x2 0
mutual
def dK (fuel:Nat) (x1:(List aB)) (x2:Int):Option Int :=
 match fuel with
 | 0=>none
 | fuel+1 =>
 fJ fuel x1 x2 0
def fJ (fuel:Nat) (x1:(List aB)) (g1:Int) (g2:Int):Option Int :=
 match fuel with
 | 0=>none
 | fuel+1 =>
 (bif (decide (g2 < (x1.length:Int))) then
 (idx x1 g2).bind fun v6 =>
 (bif (decide (v6.kind≠g1)) then
 some (-1)
 else
 (idx x1 g2).bind fun v8 =>
 (eE fuel (w64 (g1+1))).bind fun v9 =>
 (bif (decide (v8.name≠v9)) then
 some (-1)
 else
 (idx x1 g2).bind fun v11 =>
 (bif (decide (v11.n≠(w64 ((w64 (g1+1))+1)))) then
 some (-1)
 else
 (idx x1 g2).bind fun v13 =>
 (jX fuel v13.scopes (w64 ((w64 ((w64 (g1+1))+1))+1))).bind fun v14 =>
 (bif (decide (v14 < 0)) then
 some (-1)
 else
 (idx x1 g2).bind fun v16 =>
 (dK fuel v16.kids v14).bind fun v17 =>
 (bif (decide (v17 < 0)) then
 some (-1)
 else
 fJ fuel x1 v17 (g2+1))))))
 else
 some g1)
end
def fH (fuel:Nat) (g1:Int) (g2:Int) (g3:(List aI)):Option (Int × (List aI)) :=
 match fuel with
 | 0=>none
 | fuel+1 =>
 (bif (decide (g2 < (g3.length:Int))) then
 (idx g3 g2).bind fun v6 =>
 (eE fuel (w64 (g1+1))).bind fun v7 =>
 (idx (g3.set g2.toNat (aI.mk (aB.mk g1 v6.pattern.name v6.pattern.n v6.pattern.scopes v6.pattern.kids) v6.template)) g2).bind fun v8 =>
 (idx ((g3.set g2.toNat (aI.mk (aB.mk g1 v6.pattern.name v6.pattern.n v6.pattern.scopes v6.pattern.kids) v6.template)).set g2.toNat (aI.mk (aB.mk v8.pattern.kind v7 v8.pattern.n v8.pattern.scopes v8.pattern.kids) v8.template)) g2).bind fun v9 =>
 (idx (((g3.set g2.toNat (aI.mk (aB.mk g1 v6.pattern.name v6.pattern.n v6.pattern.scopes v6.pattern.kids) v6.template)).set g2.toNat (aI.mk (aB.mk v8.pattern.kind v7 v8.pattern.n v8.pattern.scopes v8.pattern.kids) v8.template)).set g2.toNat (aI.mk (aB.mk v9.pattern.kind v9.pattern.name (w64 ((w64 (g1+1))+1)) v9.pattern.scopes v9.pattern.kids) v9.template)) g2).bind fun v10 =>
 (iI fuel v10.pattern.scopes (w64 ((w64 ((w64 (g1+1))+1))+1))).bind fun v11 =>
 (idx ((((g3.set g2.toNat (aI.mk (aB.mk g1 v6.pattern.name v6.pattern.n v6.pattern.scopes v6.pattern.kids) v6.template)).set g2.toNat (aI.mk (aB.mk v8.pattern.kind v7 v8.pattern.n v8.pattern.scopes v8.pattern.kids) v8.template)).set g2.toNat (aI.mk (aB.mk v9.pattern.kind v9.pattern.name (w64 ((w64 (g1+1))+1)) v9.pattern.scopes v9.pattern.kids) v9.template)).set g2.toNat (aI.mk (aB.mk v10.pattern.kind v10.pattern.name v10.pattern.n v11.2 v10.pattern.kids) v10.template)) g2).bind fun v12 =>
 (cV fuel v12.pattern.kids v11.1).bind fun v13 =>
 (idx (((((g3.set g2.toNat (aI.mk (aB.mk g1 v6.pattern.name v6.pattern.n v6.pattern.scopes v6.pattern.kids) v6.template)).set g2.toNat (aI.mk (aB.mk v8.pattern.kind v7 v8.pattern.n v8.pattern.scopes v8.pattern.kids) v8.template)).set g2.toNat (aI.mk (aB.mk v9.pattern.kind v9.pattern.name (w64 ((w64 (g1+1))+1)) v9.pattern.scopes v9.pattern.kids) v9.template)).set g2.toNat (aI.mk (aB.mk v10.pattern.kind v10.pattern.name v10.pattern.n v11.2 v10.pattern.kids) v10.template)).set g2.toNat (aI.mk (aB.mk v12.pattern.kind v12.pattern.name v12.pattern.n v12.pattern.scopes v13.2) v12.template)) g2).bind fun v14 =>
 (eE fuel (w64 (v13.1+1))).bind fun v15 =>
 (idx ((((((g3.set g2.toNat (aI.mk (aB.mk g1 v6.pattern.name v6.pattern.n v6.pattern.scopes v6.pattern.kids) v6.template)).set g2.toNat (aI.mk (aB.mk v8.pattern.kind v7 v8.pattern.n v8.pattern.scopes v8.pattern.kids) v8.template)).set g2.toNat (aI.mk (aB.mk v9.pattern.kind v9.pattern.name (w64 ((w64 (g1+1))+1)) v9.pattern.scopes v9.pattern.kids) v9.template)).set g2.toNat (aI.mk (aB.mk v10.pattern.kind v10.pattern.name v10.pattern.n v11.2 v10.pattern.kids) v10.template)).set g2.toNat (aI.mk (aB.mk v12.pattern.kind v12.pattern.name v12.pattern.n v12.pattern.scopes v13.2) v12.template)).set g2.toNat (aI.mk v14.pattern (aB.mk v13.1 v14.template.name v14.template.n v14.template.scopes v14.template.kids))) g2).bind fun v16 =>
 (idx (((((((g3.set g2.toNat (aI.mk (aB.mk g1 v6.pattern.name v6.pattern.n v6.pattern.scopes v6.pattern.kids) v6.template)).set g2.toNat (aI.mk (aB.mk v8.pattern.kind v7 v8.pattern.n v8.pattern.scopes v8.pattern.kids) v8.template)).set g2.toNat (aI.mk (aB.mk v9.pattern.kind v9.pattern.name (w64 ((w64 (g1+1))+1)) v9.pattern.scopes v9.pattern.kids) v9.template)).set g2.toNat (aI.mk (aB.mk v10.pattern.kind v10.pattern.name v10.pattern.n v11.2 v10.pattern.kids) v10.template)).set g2.toNat (aI.mk (aB.mk v12.pattern.kind v12.pattern.name v12.pattern.n v12.pattern.scopes v13.2) v12.template)).set g2.toNat (aI.mk v14.pattern (aB.mk v13.1 v14.template.name v14.template.n v14.template.scopes v14.template.kids))).set g2.toNat (aI.mk v16.pattern (aB.mk v16.template.kind v15 v16.template.n v16.template.scopes v16.template.kids))) g2).bind fun v17 =>
 (idx ((((((((g3.set g2.toNat (aI.mk (aB.mk g1 v6.pattern.name v6.pattern.n v6.pattern.scopes v6.pattern.kids) v6.template)).set g2.toNat (aI.mk (aB.mk v8.pattern.kind v7 v8.pattern.n v8.pattern.scopes v8.pattern.kids) v8.template)).set g2.toNat (aI.mk (aB.mk v9.pattern.kind v9.pattern.name (w64 ((w64 (g1+1))+1)) v9.pattern.scopes v9.pattern.kids) v9.template)).set g2.toNat (aI.mk (aB.mk v10.pattern.kind v10.pattern.name v10.pattern.n v11.2 v10.pattern.kids) v10.template)).set g2.toNat (aI.mk (aB.mk v12.pattern.kind v12.pattern.name v12.pattern.n v12.pattern.scopes v13.2) v12.template)).set g2.toNat (aI.mk v14.pattern (aB.mk v13.1 v14.template.name v14.template.n v14.template.scopes v14.template.kids))).set g2.toNat (aI.mk v16.pattern (aB.mk v16.template.kind v15 v16.template.n v16.template.scopes v16.template.kids))).set g2.toNat (aI.mk v17.pattern (aB.mk v17.template.kind v17.template.name (w64 ((w64 (v13.1+1))+1)) v17.template.scopes v17.template.kids))) g2).bind fun v18 =>
 (iI fuel v18.template.scopes (w64 ((w64 ((w64 (v13.1+1))+1))+1))).bind fun v19 =>
 (idx (((((((((g3.set g2.toNat (aI.mk (aB.mk g1 v6.pattern.name v6.pattern.n v6.pattern.scopes v6.pattern.kids) v6.template)).set g2.toNat (aI.mk (aB.mk v8.pattern.kind v7 v8.pattern.n v8.pattern.scopes v8.pattern.kids) v8.template)).set g2.toNat (aI.mk (aB.mk v9.pattern.kind v9.pattern.name (w64 ((w64 (g1+1))+1)) v9.pattern.scopes v9.pattern.kids) v9.template)).set g2.toNat (aI.mk (aB.mk v10.pattern.kind v10.pattern.name v10.pattern.n v11.2 v10.pattern.kids) v10.template)).set g2.toNat (aI.mk (aB.mk v12.pattern.kind v12.pattern.name v12.pattern.n v12.pattern.scopes v13.2) v12.template)).set g2.toNat (aI.mk v14.pattern (aB.mk v13.1 v14.template.name v14.template.n v14.template.scopes v14.template.kids))).set g2.toNat (aI.mk v16.pattern (aB.mk v16.template.kind v15 v16.template.n v16.template.scopes v16.template.kids))).set g2.toNat (aI.mk v17.pattern (aB.mk v17.template.kind v17.template.name (w64 ((w64 (v13.1+1))+1)) v17.template.scopes v17.template.kids))).set g2.toNat (aI.mk v18.pattern (aB.mk v18.template.kind v18.template.name v18.template.n v19.2 v18.template.kids))) g2).bind fun v20 =>
 (cV fuel v20.template.kids v19.1).bind fun v21 =>
 fH fuel  v21.1 (w64 (g2+1)) ((((((((((g3.set g2.toNat (aI.mk (aB.mk g1 v6.pattern.name v6.pattern.n v6.pattern.scopes v6.pattern.kids) v6.template)).set g2.toNat (aI.mk (aB.mk v8.pattern.kind v7 v8.pattern.n v8.pattern.scopes v8.pattern.kids) v8.template)).set g2.toNat (aI.mk (aB.mk v9.pattern.kind v9.pattern.name (w64 ((w64 (g1+1))+1)) v9.pattern.scopes v9.pattern.kids) v9.template)).set g2.toNat (aI.mk (aB.mk v10.pattern.kind v10.pattern.name v10.pattern.n v11.2 v10.pattern.kids) v10.template)).set g2.toNat (aI.mk (aB.mk v12.pattern.kind v12.pattern.name v12.pattern.n v12.pattern.scopes v13.2) v12.template)).set g2.toNat (aI.mk v14.pattern (aB.mk v13.1 v14.template.name v14.template.n v14.template.scopes v14.template.kids))).set g2.toNat (aI.mk v16.pattern (aB.mk v16.template.kind v15 v16.template.n v16.template.scopes v16.template.kids))).set g2.toNat (aI.mk v17.pattern (aB.mk v17.template.kind v17.template.name (w64 ((w64 (v13.1+1))+1)) v17.template.scopes v17.template.kids))).set g2.toNat (aI.mk v18.pattern (aB.mk v18.template.kind v18.template.name v18.template.n v19.2 v18.template.kids))).set g2.toNat (aI.mk v20.pattern (aB.mk v20.template.kind v20.template.name v20.template.n v20.template.scopes v21.2)))
 else
 some (g1,g3))
def o8 (fuel:Nat) (x1:(List aI)) (x2:Int):Option (Int × (List aI)) :=
 fH fuel  x2 0 x1
def nS (fuel:Nat) (x1:aB) (x2:Int):Option Int :=
 (jX fuel x1.scopes x2).bind fun v1 =>
 (bif (decide (v1 < 0)) then
 some (-1)
 else
 (dK fuel x1.kids v1).bind fun v3 =>
 (bif (decide (v3 < 0)) then
 some (-1)
 else
 some v3))
end Go.Abs
