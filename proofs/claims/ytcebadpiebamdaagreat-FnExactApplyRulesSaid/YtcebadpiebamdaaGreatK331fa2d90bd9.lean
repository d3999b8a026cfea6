/- A part of the proof: what the functions that the law calls answer, as pure values. -/
import Derived.Test.YtcebadpiebamdaaGreatK403ef3ea41a7
import Derived.Test.YtcebadpiebamdaaGreatKfd88efc704ec
set_option linter.unusedSimpArgs false
set_option linter.unusedVariables false
set_option maxHeartbeats 4000000
namespace Go.Abs
def eT (fuel:Nat) (x1:(List aB)) (g1:Int):Option Bool :=
 match fuel with
 | 0=>none
 | fuel+1 =>
 (bif (decide (g1 < (x1.length:Int))) then
 (idx x1 g1).bind fun v5 =>
 (lG fuel v5).bind fun v6 =>
 (bif (!v6) then
 some false
 else
 (bif (decide (v5.name=(⟨#[46,46,46]⟩:ByteArray))) then
 some false
 else
 (bif (decide (v5.name=(⟨#[95]⟩:ByteArray))) then
 some false
 else
 (sub x1 0 g1).bind fun v10 =>
 (qJ fuel v10 v5).bind fun v11 =>
 (bif v11 then
 some false
 else
 eT fuel x1 (g1+1)))))
 else
 some (decide ((x1.length:Int)<=9)))
def lV (fuel:Nat) (x1:(List aB)):Option Bool :=
 eT fuel x1 0
def vU (fuel:Nat) (x1:aB) (x2:(List aB)):Option Bool :=
 (bif (decide (x1.kind=1)) then
 (bif (decide (x1.name≠(⟨#[46,46,46]⟩:ByteArray))) then
 (bif (decide (x1.name≠(⟨#[95]⟩:ByteArray))) then
 (qJ fuel x2 x1).bind fun v4 =>
 some (!v4)
 else
 some false)
 else
 some false)
 else
 some false)
mutual
def dU (fuel:Nat) (x1:aB) (x2:(List aB)) (x3:Int) (o1:(List aB)) (o2:(List Int)):Option ((List aB) × (List Int)) :=
 match fuel with
 | 0=>none
 | fuel+1 =>
 (vU fuel x1 x2).bind fun v1 =>
 (bif v1 then
 chk (decide ((o1.length+[(aB.mk 0 (⟨#[]⟩:ByteArray) 0 ([]:List Int) ([]:List aB))].length)*80<=140737488355328)) <|
 (idx (o1++[(aB.mk 0 (⟨#[]⟩:ByteArray) 0 ([]:List Int) ([]:List aB))]) (o1.length:Int)).bind fun v4 =>
 chk (decide ((o2.length+[x3].length)*8<=140737488355328)) <|
 aU fuel x1 x2 x3 0 ((o1++[(aB.mk 0 (⟨#[]⟩:ByteArray) 0 ([]:List Int) ([]:List aB))]).set (o1.length:Int).toNat x1) (o2++[x3])
 else
 aU fuel x1 x2 x3 0 o1 o2)
def aU (fuel:Nat) (x1:aB) (x2:(List aB)) (x3:Int) (g6:Int) (g7:(List aB)) (g8:(List Int)):Option ((List aB) × (List Int)) :=
 match fuel with
 | 0=>none
 | fuel+1 =>
 (bif (decide (g6 < (x1.kids.length:Int))) then
 (idx x1.kids g6).bind fun v12 =>
 (bif (decide ((g6+1) < (x1.kids.length:Int))) then
 (idx x1.kids (g6+1)).bind fun v14 =>
 (f7 fuel v14 (⟨#[46,46,46]⟩:ByteArray)).bind fun v15 =>
 (bif v15 then
 (dU fuel v12 x2 (w64 (x3+1)) g7 g8).bind fun v17 =>
 aU fuel x1 x2 x3 (g6+1) v17.1 v17.2
 else
 (dU fuel v12 x2 x3 g7 g8).bind fun v18 =>
 aU fuel x1 x2 x3 (g6+1) v18.1 v18.2)
 else
 (dU fuel v12 x2 x3 g7 g8).bind fun v19 =>
 aU fuel x1 x2 x3 (g6+1) v19.1 v19.2)
 else
 some (g7,g8))
end
def oJ (fuel:Nat) (x1:aB) (x2:(List aB)):Option ((List aB) × (List Int)) :=
 (dU fuel x1 x2 0 ([]:List aB) ([]:List Int)).bind fun v1 =>
 some (v1.1,v1.2)
def cI (fuel:Nat) (v9:(List aB) × (List Int)) (g10:Int) (g11:(List aB)):Option Bool :=
 match fuel with
 | 0=>none
 | fuel+1 =>
 (bif (decide (g10 < (v9.1.length:Int))) then
 (idx g11 g10).bind fun v14 =>
 (sub g11 0 g10).bind fun v15 =>
 (qJ fuel v15 v14).bind fun v16 =>
 (bif v16 then
 some false
 else
 (idx v9.2 g10).bind fun v18 =>
 (bif (decide (3 < v18)) then
 some false
 else
 cI fuel v9 (w64 (g10+1)) g11))
 else
 some (decide ((g11.length:Int)<=20)))
def mA (fuel:Nat) (x1:aB) (x2:(List aB)):Option Bool :=
 (fS fuel x1).bind fun v1 =>
 (bif (!v1) then
 some false
 else
 (lV fuel x2).bind fun v3 =>
 (bif (!v3) then
 some false
 else
 (f7 fuel x1 (⟨#[46,46,46]⟩:ByteArray)).bind fun v5 =>
 (bif v5 then
 some false
 else
 (lH fuel x1 true).bind fun v7 =>
 (bif (!v7) then
 some false
 else
 (oJ fuel x1 x2).bind fun v9 =>
 cI fuel v9 0 v9.1))))
def pF (fuel:Nat) (x1:aI) (x2:(List aB)):Option Bool :=
 (mA fuel x1.pattern x2).bind fun v1 =>
 (bif (!v1) then
 some false
 else
 (bif (decide (x1.pattern.kind≠3)) then
 some false
 else
 (bif (decide ((x1.pattern.kids.length:Int)=0)) then
 some false
 else
 (oJ fuel x1.pattern x2).bind fun v5 =>
 (lU fuel x1.template v5.1 v5.2).bind fun v6 =>
 some v6)))
def rF (fuel:Nat) (x1:aI) (x2:aI):Option Bool :=
 (dG fuel x1.pattern x2.pattern).bind fun v1 =>
 (bif (!v1) then
 some false
 else
 (dG fuel x1.template x2.template).bind fun v3 =>
 (bif (!v3) then
 some false
 else
 some true))
mutual
def oI (fuel:Nat) (x1:aB):Option aB :=
 match fuel with
 | 0=>none
 | fuel+1 =>
 chk (decide ((([]:List Int).length+x1.scopes.length)*8<=140737488355328)) <|
 i4 fuel x1 0 ([]:List aB)
def i4 (fuel:Nat) (x1:aB) (g2:Int) (g3:(List aB)):Option aB :=
 match fuel with
 | 0=>none
 | fuel+1 =>
 (bif (decide (g2 < (x1.kids.length:Int))) then
 (idx x1.kids g2).bind fun v7 =>
 (oI fuel v7).bind fun v8 =>
 chk (decide ((g3.length+[v8].length)*80<=140737488355328)) <|
 i4 fuel x1 (g2+1) (g3++[v8])
 else
 some (aB.mk x1.kind x1.name x1.n (([]:List Int)++x1.scopes) g3))
end
def iN (fuel:Nat) (x1:(List Int)):Option (List Int) :=
 chk (decide ((([]:List Int).length+x1.length)*8<=140737488355328)) <|
 some (([]:List Int)++x1)
mutual
def bR (fuel:Nat) (x1:aB):Option aB :=
 match fuel with
 | 0=>none
 | fuel+1 =>
 (iN fuel x1.scopes).bind fun v1 =>
 dV fuel x1 v1 0 ([]:List aB)
def dV (fuel:Nat) (x1:aB) (v1:(List Int)) (g2:Int) (g3:(List aB)):Option aB :=
 match fuel with
 | 0=>none
 | fuel+1 =>
 (bif (decide (g2 < (x1.kids.length:Int))) then
 (idx x1.kids g2).bind fun v7 =>
 (bR fuel v7).bind fun v8 =>
 chk (decide ((g3.length+[v8].length)*80<=140737488355328)) <|
 dV fuel x1 v1 (g2+1) (g3++[v8])
 else
 some (aB.mk x1.kind x1.name x1.n v1 g3))
end
mutual
def eJ (fuel:Nat) (x1:aB):Option aB :=
 match fuel with
 | 0=>none
 | fuel+1 =>
 chk (decide ((([]:List Int).length+x1.scopes.length)*8<=140737488355328)) <|
 (kA fuel x1.kids).bind fun v2 =>
 some (aB.mk x1.kind x1.name x1.n (([]:List Int)++x1.scopes) v2)
def kA (fuel:Nat) (x1:(List aB)):Option (List aB) :=
 match fuel with
 | 0=>none
 | fuel+1 =>
 dO fuel x1 ([]:List aB) 0
def dO (fuel:Nat) (x1:(List aB)) (g1:(List aB)) (g2:Int):Option (List aB) :=
 match fuel with
 | 0=>none
 | fuel+1 =>
 (bif (decide (g2 < (x1.length:Int))) then
 (idx x1 g2).bind fun v6 =>
 (eJ fuel v6).bind fun v7 =>
 chk (decide ((g1.length+[v7].length)*80<=140737488355328)) <|
 dO fuel x1 (g1++[v7]) (g2+1)
 else
 some g1)
end
mutual
def hB (fuel:Nat) (x1:(List aI)) (x2:(List aB)) (g1:Int) (g4:Bool):Option Bool :=
 match fuel with
 | 0=>none
 | fuel+1 =>
 (bif g4 then
 (idx x1 g1).bind fun v7 =>
 (lD fuel v7 x2).bind fun v8 =>
 (bif (!v8) then
 some false
 else
 gZ fuel x1 x2 (w64 (g1+1)))
 else
 (bif (decide ((x1.length:Int) < 10)) then
 (lT fuel x2).bind fun v11 =>
 some v11
 else
 some false))
def gZ (fuel:Nat) (x1:(List aI)) (x2:(List aB)) (g1:Int):Option Bool :=
 match fuel with
 | 0=>none
 | fuel+1 =>
 (bif (decide (g1 < (x1.length:Int))) then
 hB fuel x1 x2 g1 (decide (g1 < 10))
 else
 hB fuel x1 x2 g1 false)
end
def r7 (fuel:Nat) (x1:(List aI)) (x2:(List aB)):Option Bool :=
 gZ fuel x1 x2 0
mutual
def eQ (fuel:Nat) (x1:(List aH)) (g1:Int) (g19:Int) (g28:Bool):Option Bool :=
 match fuel with
 | 0=>none
 | fuel+1 =>
 (bif g28 then
 some false
 else
 eO fuel x1 g1 (w64 (g19+1)))
def eO (fuel:Nat) (x1:(List aH)) (g1:Int) (g19:Int):Option Bool :=
 match fuel with
 | 0=>none
 | fuel+1 =>
 (bif (decide (g19 < g1)) then
 (idx x1 g19).bind fun v22 =>
 (idx x1 g1).bind fun v23 =>
 (bif (decide (v22.name=v23.name)) then
 (idx x1 g19).bind fun v25 =>
 (idx x1 g1).bind fun v26 =>
 (rA fuel v25.scopes v26.scopes).bind fun v27 =>
 eQ fuel x1 g1 g19 v27
 else
 eQ fuel x1 g1 g19 false)
 else
 eP fuel x1 (w64 (g1+1)))
def cO (fuel:Nat) (x1:(List aH)) (g1:Int) (g16:Bool):Option Bool :=
 match fuel with
 | 0=>none
 | fuel+1 =>
 (bif g16 then
 some false
 else
 eO fuel x1 g1 0)
def eS (fuel:Nat) (x1:(List aH)) (g1:Int) (g4:Bool):Option Bool :=
 match fuel with
 | 0=>none
 | fuel+1 =>
 (bif g4 then
 (idx x1 g1).bind fun v7 =>
 (mO fuel v7.name).bind fun v8 =>
 (bif (!v8) then
 cO fuel x1 g1 true
 else
 (idx x1 g1).bind fun v10 =>
 (nQ fuel v10.scopes).bind fun v11 =>
 (bif (!v11) then
 cO fuel x1 g1 true
 else
 (idx x1 g1).bind fun v13 =>
 (bif (decide (v13.id < 1)) then
 cO fuel x1 g1 true
 else
 (idx x1 g1).bind fun v15 =>
 cO fuel x1 g1 (decide (999 < v15.id)))))
 else
 some (decide ((x1.length:Int)<=60)))
def eP (fuel:Nat) (x1:(List aH)) (g1:Int):Option Bool :=
 match fuel with
 | 0=>none
 | fuel+1 =>
 (bif (decide (g1 < (x1.length:Int))) then
 eS fuel x1 g1 (decide (g1<=60))
 else
 eS fuel x1 g1 false)
end
def nY (fuel:Nat) (x1:(List aH)):Option Bool :=
 eP fuel x1 0
def lY (fuel:Nat) (x1:(List Int)) (x2:Int) (g1:Int):Option Bool :=
 match fuel with
 | 0=>none
 | fuel+1 =>
 (bif (decide (g1 < (x1.length:Int))) then
 (idx x1 g1).bind fun v5 =>
 (bif (decide (v5=x2)) then
 some true
 else
 lY fuel x1 x2 (g1+1))
 else
 some false)
def tN (fuel:Nat) (x1:(List Int)) (x2:Int):Option Bool :=
 lY fuel x1 x2 0
def eW (fuel:Nat) (x1:(List Int)) (x2:(List Int)) (g1:Int):Option Bool :=
 match fuel with
 | 0=>none
 | fuel+1 =>
 (bif (decide (g1 < (x1.length:Int))) then
 (idx x1 g1).bind fun v5 =>
 (tN fuel x2 v5).bind fun v6 =>
 (bif (!v6) then
 some false
 else
 eW fuel x1 x2 (g1+1))
 else
 some true)
def jG (fuel:Nat) (x1:(List Int)) (x2:(List Int)):Option Bool :=
 eW fuel x1 x2 0
mutual
def gQ (fuel:Nat) (x1:(List aH)) (x2:aB) (g1:(List Int)) (g2:Int) (g10:Bool):Option (List Int) :=
 match fuel with
 | 0=>none
 | fuel+1 =>
 (bif g10 then
 chk (decide ((g1.length+[g2].length)*8<=140737488355328)) <|
 d7 fuel x1 x2 (g1++[g2]) (g2+1)
 else
 d7 fuel x1 x2 g1 (g2+1))
def d7 (fuel:Nat) (x1:(List aH)) (x2:aB) (g1:(List Int)) (g2:Int):Option (List Int) :=
 match fuel with
 | 0=>none
 | fuel+1 =>
 (bif (decide (g2 < (x1.length:Int))) then
 (idx x1 g2).bind fun v6 =>
 (bif (decide (v6.name=x2.name)) then
 (idx x1 g2).bind fun v8 =>
 (jG fuel v8.scopes x2.scopes).bind fun v9 =>
 gQ fuel x1 x2 g1 g2 v9
 else
 gQ fuel x1 x2 g1 g2 false)
 else
 some g1)
end
def oY (fuel:Nat) (x1:(List aH)) (x2:aB):Option (List Int) :=
 d7 fuel x1 x2 ([]:List Int) 0
mutual
def kW (fuel:Nat) (x1:(List aH)) (v1:(List Int)) (g2:Int) (g7:Int) (g16:Bool):Option (Int × Int) :=
 match fuel with
 | 0=>none
 | fuel+1 =>
 iY fuel x1 v1 g2 g16 (g7+1)
def iY (fuel:Nat) (x1:(List aH)) (v1:(List Int)) (g2:Int) (g6:Bool) (g7:Int):Option (Int × Int) :=
 match fuel with
 | 0=>none
 | fuel+1 =>
 (bif (decide (g7 < (v1.length:Int))) then
 (bif g6 then
 (idx v1 g7).bind fun v11 =>
 (idx x1 v11).bind fun v12 =>
 (idx v1 g2).bind fun v13 =>
 (idx x1 v13).bind fun v14 =>
 (jG fuel v12.scopes v14.scopes).bind fun v15 =>
 kW fuel x1 v1 g2 g7 v15
 else
 kW fuel x1 v1 g2 g7 false)
 else
 mN fuel x1 v1 g2 g6)
def mN (fuel:Nat) (x1:(List aH)) (v1:(List Int)) (g2:Int) (g18:Bool):Option (Int × Int) :=
 match fuel with
 | 0=>none
 | fuel+1 =>
 (bif g18 then
 (idx v1 g2).bind fun v21 =>
 some (v21,1)
 else
 iZ fuel x1 v1 (g2+1))
def iZ (fuel:Nat) (x1:(List aH)) (v1:(List Int)) (g2:Int):Option (Int × Int) :=
 match fuel with
 | 0=>none
 | fuel+1 =>
 (bif (decide (g2 < (v1.length:Int))) then
 iY fuel x1 v1 g2 true 0
 else
 (bif (decide (0 < (v1.length:Int))) then
 some (0,2)
 else
 some (0,0)))
end
def q9 (fuel:Nat) (x1:(List aH)) (x2:aB):Option (Int × Int) :=
 (oY fuel x1 x2).bind fun v1 =>
 iZ fuel x1 v1 0
def kU (fuel:Nat) (x1:(List aH)) (x2:aB) (x3:aB) (v1:Int × Int) (v2:Int × Int) (g4:Bool):Option Bool :=
 match fuel with
 | 0=>none
 | fuel+1 =>
 (bif g4 then
 some false
 else
 (bif (decide (v1.2=0)) then
 some (decide (x2.name=x3.name))
 else
 (idx x1 v1.1).bind fun v8 =>
 (idx x1 v2.1).bind fun v9 =>
 some (decide (v8.id=v9.id))))
def tZ (fuel:Nat) (x1:(List aH)) (x2:aB) (x3:aB):Option Bool :=
 (q9 fuel x1 x2).bind fun v1 =>
 (q9 fuel x1 x3).bind fun v2 =>
 (bif (decide (v1.2≠v2.2)) then
 kU fuel x1 x2 x3 v1 v2 true
 else
 kU fuel x1 x2 x3 v1 v2 (decide (v1.2=2)))
mutual
def jV (fuel:Nat) (x3:(List (List Hit))) (v1:(List aB)) (v2:(List Int)) (g3:(List Hit)) (g4:Int) (v8:aB) (v9:Int) (g10:Int) (g11:(List Hit)):Option (List Hit) :=
 match fuel with
 | 0=>none
 | fuel+1 =>
 (bif (decide (g10 < (x3.length:Int))) then
 (idx x3 g10).bind fun v15 =>
 (idx v15 g4).bind fun v16 =>
 chk (decide ((g11.length+[v16].length)*192<=140737488355328)) <|
 jV fuel x3 v1 v2 g3 g4 v8 v9 (g10+1) (g11++[v16])
 else
 chk (decide ((g3.length+[(Hit.mk v8 (w64 (v9+1)) (aB.mk 0 (⟨#[]⟩:ByteArray) 0 ([]:List Int) ([]:List aB)) g11)].length)*192<=140737488355328)) <|
 jW fuel x3 v1 v2 (g3++[(Hit.mk v8 (w64 (v9+1)) (aB.mk 0 (⟨#[]⟩:ByteArray) 0 ([]:List Int) ([]:List aB)) g11)]) (w64 (g4+1)))
def jW (fuel:Nat) (x3:(List (List Hit))) (v1:(List aB)) (v2:(List Int)) (g3:(List Hit)) (g4:Int):Option (List Hit) :=
 match fuel with
 | 0=>none
 | fuel+1 =>
 (bif (decide (g4 < (v1.length:Int))) then
 (idx v1 g4).bind fun v8 =>
 (idx v2 g4).bind fun v9 =>
 jV fuel x3 v1 v2 g3 g4 v8 v9 0 ([]:List Hit)
 else
 some g3)
end
def vT (fuel:Nat) (x1:aB) (x2:(List aB)) (x3:(List (List Hit))):Option (List Hit) :=
 (jK fuel ([]:List aB) x1 x2).bind fun v1 =>
 (dM fuel ([]:List Int) x1 x2 0).bind fun v2 =>
 jW fuel x3 v1 v2 ([]:List Hit) 0
mutual
def q8 (fuel:Nat) (x1:(List aH)) (x2:(List aB)) (x3:(List aB)) (x4:(List aB)):Option ((List Hit) × Bool) :=
 match fuel with
 | 0=>none
 | fuel+1 =>
 eG fuel x1 x2 x3 x4 (-1) 0
def eG (fuel:Nat) (x1:(List aH)) (x2:(List aB)) (x3:(List aB)) (x4:(List aB)) (g1:Int) (g2:Int):Option ((List Hit) × Bool) :=
 match fuel with
 | 0=>none
 | fuel+1 =>
 (bif (decide ((w64 (g2+1)) < (x2.length:Int))) then
 (idx x2 (w64 (g2+1))).bind fun v5 =>
 (dF fuel v5).bind fun v6 =>
 (bif v6 then
 eG fuel x1 x2 x3 x4 g2 (w64 (g2+1))
 else
 eG fuel x1 x2 x3 x4 g1 (w64 (g2+1)))
 else
 mM fuel x1 x2 x3 x4 g1)
def iX (fuel:Nat) (x1:(List aH)) (x2:(List aB)) (x3:(List aB)) (x4:(List aB)) (g8:Int) (g17:Int) (g18:(List Hit)) (g32:Int) (g33:(List (List Hit))) (g34:Int):Option ((List Hit) × Bool) :=
 match fuel with
 | 0=>none
 | fuel+1 =>
 (bif (decide (0 < g34)) then
 (idx x2 g17).bind fun v37 =>
 (idx x4 g32).bind fun v38 =>
 (gG fuel x1 v37 x3 v38).bind fun v39 =>
 (bif (!v39.2) then
 some (g18,false)
 else
 chk (decide ((g33.length+[v39.1].length)*24<=140737488355328)) <|
 iX fuel x1 x2 x3 x4 g8 g17 g18 (w64 (g32+1)) (g33++[v39.1]) (w64 (g34-1)))
 else
 mL fuel x1 x2 x3 x4 g8 g17 g18 g32 g33)
def mL (fuel:Nat) (x1:(List aH)) (x2:(List aB)) (x3:(List aB)) (x4:(List aB)) (g8:Int) (g17:Int) (g18:(List Hit)) (g42:Int) (g43:(List (List Hit))):Option ((List Hit) × Bool) :=
 match fuel with
 | 0=>none
 | fuel+1 =>
 (idx x2 g17).bind fun v45 =>
 (vT fuel v45 x3 g43).bind fun v46 =>
 chk (decide ((g18.length+v46.length)*192<=140737488355328)) <|
 fP fuel x1 x2 x3 x4 g8 (g17+1) (g18++v46) g42
def fP (fuel:Nat) (x1:(List aH)) (x2:(List aB)) (x3:(List aB)) (x4:(List aB)) (g8:Int) (g17:Int) (g18:(List Hit)) (g19:Int):Option ((List Hit) × Bool) :=
 match fuel with
 | 0=>none
 | fuel+1 =>
 (bif (decide (g17 < (x2.length:Int))) then
 (idx x2 g17).bind fun v23 =>
 (dF fuel v23).bind fun v24 =>
 (bif v24 then
 fP fuel x1 x2 x3 x4 g8 (g17+1) g18 g19
 else
 (bif (decide (g17≠g8)) then
 (idx x2 g17).bind fun v27 =>
 (idx x4 g19).bind fun v28 =>
 (gG fuel x1 v27 x3 v28).bind fun v29 =>
 (bif (!v29.2) then
 some (g18,false)
 else
 chk (decide ((g18.length+v29.1.length)*192<=140737488355328)) <|
 fP fuel x1 x2 x3 x4 g8 (g17+1) (g18++v29.1) (w64 (g19+1)))
 else
 iX fuel x1 x2 x3 x4 g8 g17 g18 g19 ([]:List (List Hit)) (w64 ((x4.length:Int)-(w64 ((x2.length:Int)-2))))))
 else
 some (g18,true))
def gL (fuel:Nat) (x1:(List aH)) (x2:(List aB)) (x3:(List aB)) (x4:(List aB)) (g8:Int):Option ((List Hit) × Bool) :=
 match fuel with
 | 0=>none
 | fuel+1 =>
 fP fuel x1 x2 x3 x4 g8 0 ([]:List Hit) 0
def mM (fuel:Nat) (x1:(List aH)) (x2:(List aB)) (x3:(List aB)) (x4:(List aB)) (g8:Int):Option ((List Hit) × Bool) :=
 match fuel with
 | 0=>none
 | fuel+1 =>
 (bif (decide (g8 < 0)) then
 (bif (decide ((x2.length:Int)≠(x4.length:Int))) then
 some (([]:List Hit),false)
 else
 (bif (decide (0<=g8)) then
 (bif (decide ((x4.length:Int) < (w64 ((x2.length:Int)-2)))) then
 some (([]:List Hit),false)
 else
 gL fuel x1 x2 x3 x4 g8 )
 else
 gL fuel x1 x2 x3 x4 g8 ))
 else
 (bif (decide (0<=g8)) then
 (bif (decide ((x4.length:Int) < (w64 ((x2.length:Int)-2)))) then
 some (([]:List Hit),false)
 else
 gL fuel x1 x2 x3 x4 g8 )
 else
 gL fuel x1 x2 x3 x4 g8 ))
def gG (fuel:Nat) (x1:(List aH)) (x2:aB) (x3:(List aB)) (x4:aB):Option ((List Hit) × Bool) :=
 match fuel with
 | 0=>none
 | fuel+1 =>
 (bif (decide (x2.kind=1)) then
 (bif (decide (x2.name=(⟨#[95]⟩:ByteArray))) then
 some (([]:List Hit),true)
 else
 (qH fuel x3 x2).bind fun v3 =>
 (bif v3 then
 (bif (decide (x4.kind=1)) then
 (tZ fuel x1 x2 x4).bind fun v6 =>
 jB fuel  v6
 else
 jB fuel  false)
 else
 chk (decide ((([]:List Hit).length+[(Hit.mk x2 0 x4 ([]:List Hit))].length)*192<=140737488355328)) <|
 some ((([]:List Hit)++[(Hit.mk x2 0 x4 ([]:List Hit))]),true)))
 else
 (bif (decide (x2.kind=2)) then
 (cY fuel x2 x4).bind fun v11 =>
 some (([]:List Hit),v11)
 else
 (bif (decide (x4.kind≠3)) then
 some (([]:List Hit),false)
 else
 (q8 fuel x1 x2.kids x3 x4.kids).bind fun v13 =>
 some (v13.1,v13.2))))
def jB (fuel:Nat) (g7:Bool):Option ((List Hit) × Bool) :=
 match fuel with
 | 0=>none
 | fuel+1 =>
 some (([]:List Hit),g7)
end
def rE (fuel:Nat) (x1:aH) (x2:Int):Option Int :=
 (bif (decide ((w64 (x2-(x1.name.size:Int))) < 0)) then
 some (-1)
 else
 (rD fuel x1.scopes (w64 (x2-(x1.name.size:Int)))).bind fun v2 =>
 (bif (decide (v2 < 0)) then
 some (-1)
 else
 some v2))
def hQ (fuel:Nat) (x1:(List aH)) (g2:Int) (g3:Int):Option Int :=
 match fuel with
 | 0=>none
 | fuel+1 =>
 (bif (decide (g3 < (x1.length:Int))) then
 (idx x1 g3).bind fun v7 =>
 (rE fuel v7 g2).bind fun v8 =>
 (bif (decide (v8 < 0)) then
 some (-1)
 else
 hQ fuel x1 v8 (g3+1))
 else
 some g2)
def sA (fuel:Nat) (x1:(List aH)) (x2:Int):Option Int :=
 (bif (decide ((w64 (x2-(x1.length:Int))) < 0)) then
 some (-1)
 else
 hQ fuel x1 (w64 (x2-(x1.length:Int))) 0)
def hP (fuel:Nat) (x1:(List aI)) (g2:Int) (g3:Int):Option Int :=
 match fuel with
 | 0=>none
 | fuel+1 =>
 (bif (decide (g3 < (x1.length:Int))) then
 (idx x1 g3).bind fun v7 =>
 (rC fuel v7 g2).bind fun v8 =>
 (bif (decide (v8 < 0)) then
 some (-1)
 else
 hP fuel x1 v8 (g3+1))
 else
 some g2)
def r9 (fuel:Nat) (x1:(List aI)) (x2:Int):Option Int :=
 (bif (decide ((w64 (x2-(x1.length:Int))) < 0)) then
 some (-1)
 else
 hP fuel x1 (w64 (x2-(x1.length:Int))) 0)
def mX (fuel:Nat) (x1:aH):Option aH :=
 (mW fuel x1.scopes).bind fun v1 =>
 some (aH.mk x1.name v1 x1.id)
def eL (fuel:Nat) (x1:(List aH)) (g2:Int) (g3:(List aH)):Option (List aH) :=
 match fuel with
 | 0=>none
 | fuel+1 =>
 (bif (decide (g2 < (x1.length:Int))) then
 (idx x1 g2).bind fun v7 =>
 (mX fuel v7).bind fun v8 =>
 (idx g3 g2).bind fun v9 =>
 eL fuel x1 (g2+1) (g3.set g2.toNat v8)
 else
 some g3)
def iD (fuel:Nat) (x1:(List aH)):Option (List aH) :=
 chk (decide (0<=(x1.length:Int))&&decide ((x1.length:Int).toNat*48<=140737488355328)) <|
 eL fuel x1 0 (List.replicate (x1.length:Int).toNat (aH.mk (⟨#[]⟩:ByteArray) ([]:List Int) 0))
def eK (fuel:Nat) (x1:(List aI)) (g2:Int) (g3:(List aI)):Option (List aI) :=
 match fuel with
 | 0=>none
 | fuel+1 =>
 (bif (decide (g2 < (x1.length:Int))) then
 (idx x1 g2).bind fun v7 =>
 (mV fuel v7).bind fun v8 =>
 (idx g3 g2).bind fun v9 =>
 eK fuel x1 (g2+1) (g3.set g2.toNat v8)
 else
 some g3)
def iC (fuel:Nat) (x1:(List aI)):Option (List aI) :=
 chk (decide (0<=(x1.length:Int))&&decide ((x1.length:Int).toNat*160<=140737488355328)) <|
 eK fuel x1 0 (List.replicate (x1.length:Int).toNat (aI.mk (aB.mk 0 (⟨#[]⟩:ByteArray) 0 ([]:List Int) ([]:List aB)) (aB.mk 0 (⟨#[]⟩:ByteArray) 0 ([]:List Int) ([]:List aB))))
def mB (fuel:Nat) (x1:aH) (o1:aH):Option Bool :=
 (bif (decide (x1.name=o1.name)) then
 (kI fuel x1.scopes o1.scopes).bind fun v2 =>
 some v2
 else
 some false)
def aY (fuel:Nat) (x1:(List aH)) (o1:aH) (g1:Int):Option Int :=
 match fuel with
 | 0=>none
 | fuel+1 =>
 (bif (decide (g1 < (x1.length:Int))) then
 (idx x1 g1).bind fun v5 =>
 (mB fuel v5 o1).bind fun v6 =>
 (bif v6 then
 some g1
 else
 aY fuel x1 o1 (g1+1))
 else
 some (-1))
def dW (fuel:Nat) (x1:(List aH)) (o1:aH):Option Int :=
 aY fuel x1 o1 0
def dA (fuel:Nat) (x1:(List aH)) (o1:aH):Option Bool :=
 (dW fuel x1 o1).bind fun v1 =>
 some (decide (0<=v1))
mutual
def dH (fuel:Nat) (x1:(List aH)) (g1:Int) (v5:aH) (g11:Bool):Option Bool :=
 match fuel with
 | 0=>none
 | fuel+1 =>
 (bif g11 then
 some false
 else
 (sub x1 0 g1).bind fun v14 =>
 (dA fuel v14 v5).bind fun v15 =>
 (bif v15 then
 some false
 else
 eU fuel x1 (g1+1)))
def eU (fuel:Nat) (x1:(List aH)) (g1:Int):Option Bool :=
 match fuel with
 | 0=>none
 | fuel+1 =>
 (bif (decide (g1 < (x1.length:Int))) then
 (idx x1 g1).bind fun v5 =>
 (mQ fuel v5.name).bind fun v6 =>
 (bif (!v6) then
 dH fuel x1 g1 v5 true
 else
 (nT fuel v5.scopes).bind fun v8 =>
 (bif (!v8) then
 dH fuel x1 g1 v5 true
 else
 (lF fuel v5.id 1 999).bind fun v10 =>
 dH fuel x1 g1 v5 (!v10)))
 else
 some (decide ((x1.length:Int)<=60)))
end
def jF (fuel:Nat) (x1:(List aH)):Option Bool :=
 eU fuel x1 0
def pC (fuel:Nat) (x1:aI) (o1:(List aB)):Option Bool :=
 (pF fuel x1 o1).bind fun v1 =>
 some (!v1)
def bE (fuel:Nat) (x1:(List aI)) (o1:(List aB)) (g1:Int):Option Int :=
 match fuel with
 | 0=>none
 | fuel+1 =>
 (bif (decide (g1 < (x1.length:Int))) then
 (idx x1 g1).bind fun v5 =>
 (pC fuel v5 o1).bind fun v6 =>
 (bif v6 then
 some g1
 else
 bE fuel x1 o1 (g1+1))
 else
 some (-1))
def e7 (fuel:Nat) (x1:(List aI)) (o1:(List aB)):Option Int :=
 bE fuel x1 o1 0
def dX (fuel:Nat) (x1:(List aI)) (o1:(List aB)):Option Bool :=
 (e7 fuel x1 o1).bind fun v1 =>
 some (decide (0<=v1))
def sD (fuel:Nat) (x1:(List aI)) (x2:(List aB)):Option Bool :=
 (bif (decide ((x1.length:Int)<=9)) then
 (lV fuel x2).bind fun v2 =>
 (bif v2 then
 (dX fuel x1 x2).bind fun v4 =>
 some (!v4)
 else
 some false)
 else
 some false)
def rH (fuel:Nat) (x1:aH) (x2:aH):Option Bool :=
 (bif (decide (x1.name≠x2.name)) then
 some false
 else
 (rG fuel x1.scopes x2.scopes).bind fun v2 =>
 (bif (!v2) then
 some false
 else
 (bif (decide (x1.id≠x2.id)) then
 some false
 else
 some true)))
def jD (fuel:Nat) (x1:(List aH)) (x2:(List aH)) (g2:Int):Option Bool :=
 match fuel with
 | 0=>none
 | fuel+1 =>
 (bif (decide (g2 < (x1.length:Int))) then
 (idx x1 g2).bind fun v6 =>
 (idx x2 g2).bind fun v7 =>
 (rH fuel v6 v7).bind fun v8 =>
 (bif (!v8) then
 some false
 else
 jD fuel x1 x2 (g2+1))
 else
 some true)
def sC (fuel:Nat) (x1:(List aH)) (x2:(List aH)):Option Bool :=
 (bif (decide ((x1.length:Int)≠(x2.length:Int))) then
 some false
 else
 jD fuel x1 x2 0)
def jC (fuel:Nat) (x1:(List aI)) (x2:(List aI)) (g2:Int):Option Bool :=
 match fuel with
 | 0=>none
 | fuel+1 =>
 (bif (decide (g2 < (x1.length:Int))) then
 (idx x1 g2).bind fun v6 =>
 (idx x2 g2).bind fun v7 =>
 (rF fuel v6 v7).bind fun v8 =>
 (bif (!v8) then
 some false
 else
 jC fuel x1 x2 (g2+1))
 else
 some true)
def sB (fuel:Nat) (x1:(List aI)) (x2:(List aI)):Option Bool :=
 (bif (decide ((x1.length:Int)≠(x2.length:Int))) then
 some false
 else
 jC fuel x1 x2 0)
def fL (fuel:Nat) (x1:(List Int)) (x2:Int) (g1:Int):Option Int :=
 match fuel with
 | 0=>none
 | fuel+1 =>
 (bif (decide (g1 < (x1.length:Int))) then
 (idx x1 g1).bind fun v5 =>
 (bif (decide (x2=v5)) then
 some g1
 else
 fL fuel x1 x2 (g1+1))
 else
 some (-1))
def pW (fuel:Nat) (x1:(List Int)) (x2:Int):Option Int :=
 fL fuel x1 x2 0
def kB (fuel:Nat) (x1:(List Int)) (x2:Int):Option Bool :=
 (pW fuel x1 x2).bind fun v1 =>
 some (decide (0<=v1))
def kC (fuel:Nat) (x1:Int) (o1:(List Int)):Option Bool :=
 (kB fuel o1 x1).bind fun v1 =>
 some (!v1)
def aW (fuel:Nat) (x1:(List Int)) (o1:(List Int)) (g1:Int):Option Int :=
 match fuel with
 | 0=>none
 | fuel+1 =>
 (bif (decide (g1 < (x1.length:Int))) then
 (idx x1 g1).bind fun v5 =>
 (kC fuel v5 o1).bind fun v6 =>
 (bif v6 then
 some g1
 else
 aW fuel x1 o1 (g1+1))
 else
 some (-1))
def dJ (fuel:Nat) (x1:(List Int)) (o1:(List Int)):Option Int :=
 aW fuel x1 o1 0
def cP (fuel:Nat) (x1:(List Int)) (o1:(List Int)):Option Bool :=
 (dJ fuel x1 o1).bind fun v1 =>
 some (decide (0<=v1))
def jH (fuel:Nat) (x1:(List Int)) (x2:(List Int)):Option Bool :=
 (cP fuel x1 x2).bind fun v1 =>
 some (!v1)
mutual
def jE (fuel:Nat) (x1:(List aH)) (x2:aB) (g1:(List Int)) (g2:Int) (g9:Bool):Option (List Int) :=
 match fuel with
 | 0=>none
 | fuel+1 =>
 (bif g9 then
 chk (decide ((g1.length+[g2].length)*8<=140737488355328)) <|
 fZ fuel x1 x2 (g1++[g2]) (g2+1)
 else
 fZ fuel x1 x2 g1 (g2+1))
def fZ (fuel:Nat) (x1:(List aH)) (x2:aB) (g1:(List Int)) (g2:Int):Option (List Int) :=
 match fuel with
 | 0=>none
 | fuel+1 =>
 (bif (decide (g2 < (x1.length:Int))) then
 (idx x1 g2).bind fun v6 =>
 (bif (decide (v6.name=x2.name)) then
 (jH fuel v6.scopes x2.scopes).bind fun v8 =>
 jE fuel x1 x2 g1 g2 v8
 else
 jE fuel x1 x2 g1 g2 false)
 else
 some g1)
end
def sF (fuel:Nat) (x1:(List aH)) (x2:aB):Option (List Int) :=
 fZ fuel x1 x2 ([]:List Int) 0
def sH (fuel:Nat) (x1:Int) (o1:(List aH)) (o2:Int):Option Bool :=
 (idx o1 x1).bind fun v1 =>
 (idx o1 o2).bind fun v2 =>
 (jH fuel v1.scopes v2.scopes).bind fun v3 =>
 some (!v3)
def bJ (fuel:Nat) (x1:(List Int)) (o1:(List aH)) (o2:Int) (g1:Int):Option Int :=
 match fuel with
 | 0=>none
 | fuel+1 =>
 (bif (decide (g1 < (x1.length:Int))) then
 (idx x1 g1).bind fun v5 =>
 (sH fuel v5 o1 o2).bind fun v6 =>
 (bif v6 then
 some g1
 else
 bJ fuel x1 o1 o2 (g1+1))
 else
 some (-1))
def gB (fuel:Nat) (x1:(List Int)) (o1:(List aH)) (o2:Int):Option Int :=
 bJ fuel x1 o1 o2 0
def fA (fuel:Nat) (x1:(List Int)) (o1:(List aH)) (o2:Int):Option Bool :=
 (gB fuel x1 o1 o2).bind fun v1 =>
 some (decide (0<=v1))
def j4 (fuel:Nat) (x1:(List aH)) (v1:(List Int)) (g3:Int):Option (Int × Int) :=
 match fuel with
 | 0=>none
 | fuel+1 =>
 (bif (decide (g3 < (v1.length:Int))) then
 (idx v1 g3).bind fun v7 =>
 (fA fuel v1 x1 v7).bind fun v8 =>
 (bif (!v8) then
 some (v7,1)
 else
 j4 fuel x1 v1 (g3+1))
 else
 some (0,2))
def vV (fuel:Nat) (x1:(List aH)) (x2:aB):Option (Int × Int) :=
 (sF fuel x1 x2).bind fun v1 =>
 (bif (decide ((v1.length:Int)=0)) then
 some (0,0)
 else
 j4 fuel x1 v1 0)
mutual
def gR (fuel:Nat) (x1:(List aH)) (x2:(List aI)) (x3:(List aB)) (x4:aB) (g9:Int):Option (Int × Bool) :=
 match fuel with
 | 0=>none
 | fuel+1 =>
 (bif (decide (g9 < (x2.length:Int))) then
 (idx x2 g9).bind fun v13 =>
 (gG fuel x1 v13.pattern x3 x4).bind fun v14 =>
 (bif v14.2 then
 some (g9,true)
 else
 gR fuel x1 x2 x3 x4 (g9+1))
 else
 some (0,false))
def d8 (fuel:Nat) (x1:(List aH)) (x2:(List aI)) (x3:(List aB)) (x4:aB) (g6:Bool):Option (Int × Bool) :=
 match fuel with
 | 0=>none
 | fuel+1 =>
 (bif g6 then
 some (0,false)
 else
 gR fuel x1 x2 x3 x4 0)
end
def oZ (fuel:Nat) (x1:(List aH)) (x2:(List aI)) (x3:(List aB)) (x4:aB):Option (Int × Bool) :=
 (nY fuel x1).bind fun v1 =>
 (bif (!v1) then
 d8 fuel x1 x2 x3 x4 true
 else
 (r7 fuel x2 x3).bind fun v3 =>
 (bif (!v3) then
 d8 fuel x1 x2 x3 x4 true
 else
 (gN fuel x4).bind fun v5 =>
 d8 fuel x1 x2 x3 x4 (!v5)))
def kK (fuel:Nat) (x1:(List aH)) (x2:aB) (g4:Bool):Option (Int × Int) :=
 match fuel with
 | 0=>none
 | fuel+1 =>
 (bif g4 then
 some (0,0)
 else
 (vV fuel x1 x2).bind fun v7 =>
 (bif (decide (v7.2≠1)) then
 some (0,v7.2)
 else
 (idx x1 v7.1).bind fun v9 =>
 some (v9.id,1)))
def nW (fuel:Nat) (x1:(List aH)) (x2:aB):Option (Int × Int) :=
 (jF fuel x1).bind fun v1 =>
 (bif (!v1) then
 kK fuel x1 x2 true
 else
 (lG fuel x2).bind fun v3 =>
 kK fuel x1 x2 (!v3))
def b6 (fuel:Nat) (x1:(List aH)) (x2:aB) (x3:aB) (g6:Bool):Option Bool :=
 match fuel with
 | 0=>none
 | fuel+1 =>
 (bif g6 then
 some false
 else
 (nW fuel x1 x2).bind fun v9 =>
 (nW fuel x1 x3).bind fun v10 =>
 (bif (decide (v9.2=1)) then
 (bif (decide (v10.2=1)) then
 (bif (decide (v9.1=v10.1)) then
 some true
 else
 (bif (decide (v9.2=0)) then
 (bif (decide (v10.2=0)) then
 some (decide (x2.name=x3.name))
 else
 some false)
 else
 some false))
 else
 (bif (decide (v9.2=0)) then
 (bif (decide (v10.2=0)) then
 some (decide (x2.name=x3.name))
 else
 some false)
 else
 some false))
 else
 (bif (decide (v9.2=0)) then
 (bif (decide (v10.2=0)) then
 some (decide (x2.name=x3.name))
 else
 some false)
 else
 some false)))
def k7 (fuel:Nat) (x1:(List aH)) (x2:aB) (x3:aB):Option Bool :=
 (jF fuel x1).bind fun v1 =>
 (bif (!v1) then
 b6 fuel x1 x2 x3 true
 else
 (lG fuel x2).bind fun v3 =>
 (bif (!v3) then
 b6 fuel x1 x2 x3 true
 else
 (lG fuel x3).bind fun v5 =>
 b6 fuel x1 x2 x3 (!v5)))
end Go.Abs
