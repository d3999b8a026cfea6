/- A part of the proof: what the functions that the law calls answer, as pure values. -/
import Derived.Test.YtcebadpiebamdaaGreatK403ef3ea41a7
set_option linter.unusedSimpArgs false
set_option linter.unusedVariables false
set_option maxHeartbeats 4000000
namespace Go.Abs
def rD (fuel:Nat) (x1:(List Int)) (x2:Int):Option Int :=
 (bif (decide ((w64 (x2-(x1.length:Int))) < 0)) then
 some (-1)
 else
 some (w64 (x2-(x1.length:Int))))
mutual
def iG (fuel:Nat) (x1:aB) (x2:Int):Option Int :=
 match fuel with
 | 0=>none
 | fuel+1 =>
 (bif (decide ((w64 (x2-(x1.name.size:Int))) < 0)) then
 some (-1)
 else
 (rD fuel x1.scopes (w64 (x2-(x1.name.size:Int)))).bind fun v2 =>
 (bif (decide (v2 < 0)) then
 some (-1)
 else
 (lN fuel x1.kids v2).bind fun v4 =>
 (bif (decide (v4 < 0)) then
 some (-1)
 else
 some v4)))
def lN (fuel:Nat) (x1:(List aB)) (x2:Int):Option Int :=
 match fuel with
 | 0=>none
 | fuel+1 =>
 (bif (decide ((w64 (x2-(x1.length:Int))) < 0)) then
 some (-1)
 else
 dN fuel x1 (w64 (x2-(x1.length:Int))) 0)
def dN (fuel:Nat) (x1:(List aB)) (g2:Int) (g3:Int):Option Int :=
 match fuel with
 | 0=>none
 | fuel+1 =>
 (bif (decide (g3 < (x1.length:Int))) then
 (idx x1 g3).bind fun v7 =>
 (iG fuel v7 g2).bind fun v8 =>
 (bif (decide (v8 < 0)) then
 some (-1)
 else
 dN fuel x1 v8 (g3+1))
 else
 some g2)
end
def fQ (fuel:Nat) (x1:(List Int)) (g2:Int) (g3:(List Int)):Option (List Int) :=
 match fuel with
 | 0=>none
 | fuel+1 =>
 (bif (decide (g2 < (x1.length:Int))) then
 (idx x1 g2).bind fun v7 =>
 (idx g3 g2).bind fun v8 =>
 fQ fuel x1 (g2+1) (g3.set g2.toNat v7)
 else
 some g3)
def mW (fuel:Nat) (x1:(List Int)):Option (List Int) :=
 chk (decide (0<=(x1.length:Int))&&decide ((x1.length:Int).toNat*8<=140737488355328)) <|
 fQ fuel x1 0 (List.replicate (x1.length:Int).toNat 0)
mutual
def cH (fuel:Nat) (x1:aB):Option aB :=
 match fuel with
 | 0=>none
 | fuel+1 =>
 (mW fuel x1.scopes).bind fun v1 =>
 (dT fuel x1.kids).bind fun v2 =>
 some (aB.mk x1.kind x1.name x1.n v1 v2)
def dT (fuel:Nat) (x1:(List aB)):Option (List aB) :=
 match fuel with
 | 0=>none
 | fuel+1 =>
 chk (decide (0<=(x1.length:Int))&&decide ((x1.length:Int).toNat*80<=140737488355328)) <|
 cW fuel x1 0 (List.replicate (x1.length:Int).toNat (aB.mk 0 (⟨#[]⟩:ByteArray) 0 ([]:List Int) ([]:List aB)))
def cW (fuel:Nat) (x1:(List aB)) (g2:Int) (g3:(List aB)):Option (List aB) :=
 match fuel with
 | 0=>none
 | fuel+1 =>
 (bif (decide (g2 < (x1.length:Int))) then
 (idx x1 g2).bind fun v7 =>
 (cH fuel v7).bind fun v8 =>
 (idx g3 g2).bind fun v9 =>
 cW fuel x1 (g2+1) (g3.set g2.toNat v8)
 else
 some g3)
end
def qP (fuel:Nat) (x1:Int) (x2:Bool):Option Bool :=
 (bif (decide (97<=x1)) then
 (bif (decide (x1<=122)) then
 some true
 else
 (bif (decide (x1=42)) then
 some true
 else
 (bif (decide (x1=63)) then
 some true
 else
 (bif (decide (x1=61)) then
 some true
 else
 (bif (decide (x1=43)) then
 some true
 else
 (bif (decide (x1=60)) then
 some true
 else
 (bif (!x2) then
 (bif (decide (48<=x1)) then
 (bif (decide (x1<=57)) then
 some true
 else
 some (decide (x1=45)))
 else
 some (decide (x1=45)))
 else
 some false)))))))
 else
 (bif (decide (x1=42)) then
 some true
 else
 (bif (decide (x1=63)) then
 some true
 else
 (bif (decide (x1=61)) then
 some true
 else
 (bif (decide (x1=43)) then
 some true
 else
 (bif (decide (x1=60)) then
 some true
 else
 (bif (!x2) then
 (bif (decide (48<=x1)) then
 (bif (decide (x1<=57)) then
 some true
 else
 some (decide (x1=45)))
 else
 some (decide (x1=45)))
 else
 some false)))))))
def fG (fuel:Nat) (x1:ByteArray) (g3:Int):Option Bool :=
 match fuel with
 | 0=>none
 | fuel+1 =>
 (bif (decide (g3 < (x1.size:Int))) then
 (bif (decide (g3<=12)) then
 (zrW x1 g3).bind fun v7 =>
 (qP fuel v7 (decide (g3=0))).bind fun v8 =>
 (bif (!v8) then
 some false
 else
 fG fuel x1 (w64 (g3+1)))
 else
 (bif (decide (1<=(x1.size:Int))) then
 some (decide ((x1.size:Int)<=12))
 else
 some false))
 else
 (bif (decide (1<=(x1.size:Int))) then
 some (decide ((x1.size:Int)<=12))
 else
 some false))
def mO (fuel:Nat) (x1:ByteArray):Option Bool :=
 (bif (decide (x1=(⟨#[46,46,46]⟩:ByteArray))) then
 some true
 else
 (bif (decide (x1=(⟨#[95]⟩:ByteArray))) then
 some true
 else
 fG fuel x1 0))
def eY (fuel:Nat) (x1:(List Int)) (g1:Int):Option Bool :=
 match fuel with
 | 0=>none
 | fuel+1 =>
 (bif (decide (g1 < (x1.length:Int))) then
 (bif (decide (g1<=24)) then
 (idx x1 g1).bind fun v5 =>
 (bif (decide (v5 < 1)) then
 some false
 else
 (idx x1 g1).bind fun v7 =>
 (bif (decide (99 < v7)) then
 some false
 else
 (bif (decide (0 < g1)) then
 (idx x1 g1).bind fun v10 =>
 (idx x1 (w64 (g1-1))).bind fun v11 =>
 (bif (decide (v10<=v11)) then
 some false
 else
 eY fuel x1 (w64 (g1+1)))
 else
 eY fuel x1 (w64 (g1+1)))))
 else
 some (decide ((x1.length:Int)<=24)))
 else
 some (decide ((x1.length:Int)<=24)))
def nQ (fuel:Nat) (x1:(List Int)):Option Bool :=
 eY fuel x1 0
mutual
def qI (fuel:Nat) (x1:aB) (x2:Int):Option Bool :=
 match fuel with
 | 0=>none
 | fuel+1 =>
 (bif (decide (x2=0)) then
 some false
 else
 (bif (decide (x1.kind=1)) then
 (mO fuel x1.name).bind fun v3 =>
 (bif v3 then
 (bif (decide (x1.n=0)) then
 (nQ fuel x1.scopes).bind fun v6 =>
 (bif v6 then
 some (decide ((x1.kids.length:Int)=0))
 else
 some false)
 else
 some false)
 else
 some false)
 else
 (bif (decide (x1.kind=2)) then
 (bif (decide (x1.name=(⟨#[]⟩:ByteArray))) then
 (bif (decide (0<=x1.n)) then
 (bif (decide (x1.n<=999)) then
 (bif (decide ((x1.scopes.length:Int)=0)) then
 some (decide ((x1.kids.length:Int)=0))
 else
 some false)
 else
 some false)
 else
 some false)
 else
 some false)
 else
 (bif (decide (x1.kind≠3)) then
 some false
 else
 (bif (decide (x1.name≠(⟨#[]⟩:ByteArray))) then
 some false
 else
 (bif (decide (x1.n≠0)) then
 some false
 else
 (bif (decide ((x1.scopes.length:Int)≠0)) then
 some false
 else
 nG fuel x1 x2 0)))))))
def nG (fuel:Nat) (x1:aB) (x2:Int) (g17:Int):Option Bool :=
 match fuel with
 | 0=>none
 | fuel+1 =>
 (bif (decide (g17 < (x1.kids.length:Int))) then
 (idx x1.kids g17).bind fun v21 =>
 (qI fuel v21 (w64 (x2-1))).bind fun v22 =>
 (bif (!v22) then
 some false
 else
 nG fuel x1 x2 (g17+1))
 else
 some true)
end
mutual
def lM (fuel:Nat) (x1:aB):Option Int :=
 match fuel with
 | 0=>none
 | fuel+1 =>
 hI fuel x1 1 0
def hI (fuel:Nat) (x1:aB) (g1:Int) (g2:Int):Option Int :=
 match fuel with
 | 0=>none
 | fuel+1 =>
 (bif (decide (g2 < (x1.kids.length:Int))) then
 (idx x1.kids g2).bind fun v6 =>
 (lM fuel v6).bind fun v7 =>
 hI fuel x1 (w64 (g1+v7)) (g2+1)
 else
 some g1)
end
def gN (fuel:Nat) (x1:aB):Option Bool :=
 (qI fuel x1 40).bind fun v1 =>
 (bif v1 then
 (lM fuel x1).bind fun v3 =>
 some (decide (v3<=400))
 else
 some false)
def xH (fuel:Nat) (x1:aB):Option Bool :=
 (bif (decide (x1.kind=1)) then
 (gN fuel x1).bind fun v2 =>
 some v2
 else
 some false)
def kX (fuel:Nat) (x1:(List Int)) (x2:(List Int)) (g2:Int):Option Bool :=
 match fuel with
 | 0=>none
 | fuel+1 =>
 (bif (decide (g2 < (x1.length:Int))) then
 (idx x1 g2).bind fun v6 =>
 (idx x2 g2).bind fun v7 =>
 (bif (decide (v6≠v7)) then
 some false
 else
 kX fuel x1 x2 (g2+1))
 else
 some true)
def rA (fuel:Nat) (x1:(List Int)) (x2:(List Int)):Option Bool :=
 (bif (decide ((x1.length:Int)≠(x2.length:Int))) then
 some false
 else
 kX fuel x1 x2 0)
mutual
def cY (fuel:Nat) (x1:aB) (x2:aB):Option Bool :=
 match fuel with
 | 0=>none
 | fuel+1 =>
 (bif (decide (x1.kind≠x2.kind)) then
 some false
 else
 (bif (decide (x1.name≠x2.name)) then
 some false
 else
 (bif (decide (x1.n≠x2.n)) then
 some false
 else
 (rA fuel x1.scopes x2.scopes).bind fun v4 =>
 (bif (!v4) then
 some false
 else
 (bif (decide ((x1.kids.length:Int)≠(x2.kids.length:Int))) then
 some false
 else
 iM fuel x1 x2 0)))))
def iM (fuel:Nat) (x1:aB) (x2:aB) (g7:Int):Option Bool :=
 match fuel with
 | 0=>none
 | fuel+1 =>
 (bif (decide (g7 < (x1.kids.length:Int))) then
 (idx x1.kids g7).bind fun v11 =>
 (idx x2.kids g7).bind fun v12 =>
 (cY fuel v11 v12).bind fun v13 =>
 (bif (!v13) then
 some false
 else
 iM fuel x1 x2 (g7+1))
 else
 some true)
end
def dF (fuel:Nat) (x1:aB):Option Bool :=
 (bif (decide (x1.kind=1)) then
 some (decide (x1.name=(⟨#[46,46,46]⟩:ByteArray)))
 else
 some false)
def gM (fuel:Nat) (x1:(List Hit)) (x2:aB) (g1:Int):Option Int :=
 match fuel with
 | 0=>none
 | fuel+1 =>
 (bif (decide (g1 < (x1.length:Int))) then
 (idx x1 g1).bind fun v5 =>
 (cY fuel v5.name x2).bind fun v6 =>
 (bif v6 then
 some g1
 else
 gM fuel x1 x2 (g1+1))
 else
 some (-1))
def oH (fuel:Nat) (x1:(List Hit)) (x2:aB):Option Int :=
 gM fuel x1 x2 0
def pM (fuel:Nat) (x1:(List Hit)) (x2:aB):Option Int :=
 (bif (decide (x2.kind≠1)) then
 some (-1)
 else
 (oH fuel x1 x2).bind fun v2 =>
 (bif (decide (v2 < 0)) then
 some (-1)
 else
 (idx x1 v2).bind fun v4 =>
 some v4.depth))
mutual
def oG (fuel:Nat) (x1:(List Hit)) (x2:aB):Option Bool :=
 match fuel with
 | 0=>none
 | fuel+1 =>
 (pM fuel x1 x2).bind fun v1 =>
 (bif (decide (0 < v1)) then
 some true
 else
 iR fuel x1 x2 0)
def iR (fuel:Nat) (x1:(List Hit)) (x2:aB) (g3:Int):Option Bool :=
 match fuel with
 | 0=>none
 | fuel+1 =>
 (bif (decide (g3 < (x2.kids.length:Int))) then
 (idx x2.kids g3).bind fun v7 =>
 (oG fuel x1 v7).bind fun v8 =>
 (bif v8 then
 some true
 else
 iR fuel x1 x2 (g3+1))
 else
 some false)
end
def gK (fuel:Nat) (x1:(List Hit)) (g1:(List Hit)) (g2:Int):Option (List Hit) :=
 match fuel with
 | 0=>none
 | fuel+1 =>
 (bif (decide (g2 < (x1.length:Int))) then
 (idx x1 g2).bind fun v6 =>
 (idx x1 g2).bind fun v7 =>
 (idx x1 g2).bind fun v8 =>
 (bif (decide (0 < v7.depth)) then
 chk (decide ((g1.length+[(Hit.mk v6.name (w64 (v7.depth-1)) v8.one ([]:List Hit))].length)*192<=140737488355328)) <|
 gK fuel x1 (g1++[(Hit.mk v6.name (w64 (v7.depth-1)) v8.one ([]:List Hit))]) (g2+1)
 else
 chk (decide ((g1.length+[(Hit.mk v6.name v7.depth v8.one ([]:List Hit))].length)*192<=140737488355328)) <|
 gK fuel x1 (g1++[(Hit.mk v6.name v7.depth v8.one ([]:List Hit))]) (g2+1))
 else
 some g1)
def tY (fuel:Nat) (x1:(List Hit)):Option (List Hit) :=
 gK fuel x1 ([]:List Hit) 0
mutual
def nD (fuel:Nat) (x1:aB) (x2:(List Hit)):Option Bool :=
 match fuel with
 | 0=>none
 | fuel+1 =>
 (dF fuel x1).bind fun v1 =>
 (bif v1 then
 some false
 else
 (pM fuel x2 x1).bind fun v3 =>
 (bif (decide (0 < v3)) then
 some false
 else
 fN fuel x1 x2 0))
def fN (fuel:Nat) (x1:aB) (x2:(List Hit)) (g5:Int):Option Bool :=
 match fuel with
 | 0=>none
 | fuel+1 =>
 (bif (decide (g5 < (x1.kids.length:Int))) then
 (idx x1.kids g5).bind fun v9 =>
 (dF fuel v9).bind fun v10 =>
 (bif v10 then
 (bif (decide (g5=0)) then
 some false
 else
 (idx x1.kids (w64 (g5-1))).bind fun v13 =>
 (dF fuel v13).bind fun v14 =>
 (bif v14 then
 some false
 else
 fN fuel x1 x2 (g5+1)))
 else
 (bif (decide ((g5+1) < (x1.kids.length:Int))) then
 (idx x1.kids (g5+1)).bind fun v17 =>
 (dF fuel v17).bind fun v18 =>
 (bif v18 then
 (idx x1.kids g5).bind fun v20 =>
 (oG fuel x2 v20).bind fun v21 =>
 (bif (!v21) then
 some false
 else
 (idx x1.kids g5).bind fun v23 =>
 (tY fuel x2).bind fun v24 =>
 (nD fuel v23 v24).bind fun v25 =>
 (bif (!v25) then
 some false
 else
 fN fuel x1 x2 (g5+1)))
 else
 (idx x1.kids g5).bind fun v27 =>
 (nD fuel v27 x2).bind fun v28 =>
 (bif (!v28) then
 some false
 else
 fN fuel x1 x2 (g5+1)))
 else
 (idx x1.kids g5).bind fun v30 =>
 (nD fuel v30 x2).bind fun v31 =>
 (bif (!v31) then
 some false
 else
 fN fuel x1 x2 (g5+1))))
 else
 some true)
end
def hU (fuel:Nat) (x1:(List Hit)) (g1:(List aB)) (g2:(List Int)) (g3:Int):Option ((List aB) × (List Int)) :=
 match fuel with
 | 0=>none
 | fuel+1 =>
 (bif (decide (g3 < (x1.length:Int))) then
 (idx x1 g3).bind fun v7 =>
 chk (decide ((g1.length+[v7.name].length)*80<=140737488355328)) <|
 chk (decide ((g2.length+[v7.depth].length)*8<=140737488355328)) <|
 hU fuel x1 (g1++[v7.name]) (g2++[v7.depth]) (g3+1)
 else
 some (g1,g2))
def sE (fuel:Nat) (x1:(List Hit)):Option ((List aB) × (List Int)) :=
 hU fuel x1 ([]:List aB) ([]:List Int) 0
def oO (fuel:Nat) (x1:ByteArray) (x2:Int):Option Int :=
 some (Lib.indexByte x1.data.toList x2.toNat.toUInt8)
def lF (fuel:Nat) (x1:Int) (x2:Int) (x3:Int):Option Bool :=
 (bif (decide (x2<=x1)) then
 some (decide (x1<=x3))
 else
 some false)
def bC (fuel:Nat) (x1:ByteArray) (g3:Int):Option Bool :=
 match fuel with
 | 0=>none
 | fuel+1 =>
 (bif (decide (g3 < (x1.size:Int))) then
 (zrW x1 g3).bind fun v6 =>
 (bif (decide (97<=v6)) then
 (bif (decide (v6<=122)) then
 bC fuel x1 (w64 (g3+1))
 else
 (oO fuel (⟨#[42,63,61,43,60]⟩:ByteArray) v6).bind fun v9 =>
 (bif (decide (0<=v9)) then
 bC fuel x1 (w64 (g3+1))
 else
 (bif (decide (0 < g3)) then
 (bif (decide (48<=v6)) then
 (bif (decide (v6<=57)) then
 bC fuel x1 (w64 (g3+1))
 else
 (bif (decide (v6=45)) then
 bC fuel x1 (w64 (g3+1))
 else
 some false))
 else
 (bif (decide (v6=45)) then
 bC fuel x1 (w64 (g3+1))
 else
 some false))
 else
 some false)))
 else
 (oO fuel (⟨#[42,63,61,43,60]⟩:ByteArray) v6).bind fun v16 =>
 (bif (decide (0<=v16)) then
 bC fuel x1 (w64 (g3+1))
 else
 (bif (decide (0 < g3)) then
 (bif (decide (48<=v6)) then
 (bif (decide (v6<=57)) then
 bC fuel x1 (w64 (g3+1))
 else
 (bif (decide (v6=45)) then
 bC fuel x1 (w64 (g3+1))
 else
 some false))
 else
 (bif (decide (v6=45)) then
 bC fuel x1 (w64 (g3+1))
 else
 some false))
 else
 some false)))
 else
 (lF fuel (x1.size:Int) 1 12).bind fun v23 =>
 some v23)
def mQ (fuel:Nat) (x1:ByteArray):Option Bool :=
 (bif (decide (x1=(⟨#[46,46,46]⟩:ByteArray))) then
 some true
 else
 (bif (decide (x1=(⟨#[95]⟩:ByteArray))) then
 some true
 else
 bC fuel x1 0))
def e6 (fuel:Nat) (x1:(List Int)) (g1:Int):Option Bool :=
 match fuel with
 | 0=>none
 | fuel+1 =>
 (bif (decide (g1 < (x1.length:Int))) then
 (idx x1 g1).bind fun v5 =>
 (lF fuel v5 1 99).bind fun v6 =>
 (bif (!v6) then
 some false
 else
 (bif (decide (0 < g1)) then
 (idx x1 (w64 (g1-1))).bind fun v9 =>
 (bif (decide (v5<=v9)) then
 some false
 else
 e6 fuel x1 (g1+1))
 else
 e6 fuel x1 (g1+1)))
 else
 some (decide ((x1.length:Int)<=24)))
def nT (fuel:Nat) (x1:(List Int)):Option Bool :=
 e6 fuel x1 0
mutual
def oK (fuel:Nat) (x1:aB) (x2:Int) (o1:Int):Option (Bool × Int) :=
 match fuel with
 | 0=>none
 | fuel+1 =>
 (bif (decide ((w64 (o1-1)) < 0)) then
 some (false,(w64 (o1-1)))
 else
 (bif (decide (40 < x2)) then
 some (false,(w64 (o1-1)))
 else
 (bif (decide (x1.kind=1)) then
 (mQ fuel x1.name).bind fun v4 =>
 (bif v4 then
 (bif (decide (x1.n=0)) then
 (nT fuel x1.scopes).bind fun v7 =>
 (bif v7 then
 some ((decide ((x1.kids.length:Int)=0)),(w64 (o1-1)))
 else
 some (false,(w64 (o1-1))))
 else
 some (false,(w64 (o1-1))))
 else
 some (false,(w64 (o1-1))))
 else
 (bif (decide (x1.kind=2)) then
 (bif (decide (x1.name=(⟨#[]⟩:ByteArray))) then
 (lF fuel x1.n 0 999).bind fun v11 =>
 (bif v11 then
 (bif (decide ((x1.scopes.length:Int)=0)) then
 some ((decide ((x1.kids.length:Int)=0)),(w64 (o1-1)))
 else
 some (false,(w64 (o1-1))))
 else
 some (false,(w64 (o1-1))))
 else
 some (false,(w64 (o1-1))))
 else
 (bif (decide (x1.kind=3)) then
 (bif (decide (x1.name≠(⟨#[]⟩:ByteArray))) then
 some (false,(w64 (o1-1)))
 else
 (bif (decide (x1.n≠0)) then
 some (false,(w64 (o1-1)))
 else
 (bif (decide (0 < (x1.scopes.length:Int))) then
 some (false,(w64 (o1-1)))
 else
 i6 fuel x1 x2 0 (w64 (o1-1)))))
 else
 some (false,(w64 (o1-1))))))))
def i6 (fuel:Nat) (x1:aB) (x2:Int) (g19:Int) (g20:Int):Option (Bool × Int) :=
 match fuel with
 | 0=>none
 | fuel+1 =>
 (bif (decide (g19 < (x1.kids.length:Int))) then
 (idx x1.kids g19).bind fun v24 =>
 (oK fuel v24 (w64 (x2+1)) g20).bind fun v25 =>
 (bif (!v25.1) then
 some (false,v25.2)
 else
 i6 fuel x1 x2 (g19+1) v25.2)
 else
 some (true,g20))
end
def fS (fuel:Nat) (x1:aB):Option Bool :=
 (oK fuel x1 1 400).bind fun v1 =>
 some v1.1
def lG (fuel:Nat) (x1:aB):Option Bool :=
 (bif (decide (x1.kind=1)) then
 (fS fuel x1).bind fun v2 =>
 some v2
 else
 some false)
def fM (fuel:Nat) (x1:(List Int)) (x2:(List Int)) (g2:Int):Option Bool :=
 match fuel with
 | 0=>none
 | fuel+1 =>
 (bif (decide (g2 < (x1.length:Int))) then
 (idx x1 g2).bind fun v6 =>
 (idx x2 g2).bind fun v7 =>
 (bif (decide (v6≠v7)) then
 some false
 else
 fM fuel x1 x2 (g2+1))
 else
 some true)
def kI (fuel:Nat) (x1:(List Int)) (x2:(List Int)):Option Bool :=
 (bif (decide ((x1.length:Int)≠(x2.length:Int))) then
 some false
 else
 fM fuel x1 x2 0)
mutual
def cD (fuel:Nat) (x1:aB) (x2:aB):Option Bool :=
 match fuel with
 | 0=>none
 | fuel+1 =>
 (bif (decide (x1.kind=x2.kind)) then
 (bif (decide (x1.name=x2.name)) then
 (bif (decide (x1.n=x2.n)) then
 (kI fuel x1.scopes x2.scopes).bind fun v4 =>
 (bif v4 then
 (dD fuel x1.kids x2.kids).bind fun v6 =>
 some v6
 else
 some false)
 else
 some false)
 else
 some false)
 else
 some false)
def dD (fuel:Nat) (x1:(List aB)) (x2:(List aB)):Option Bool :=
 match fuel with
 | 0=>none
 | fuel+1 =>
 (bif (decide ((x1.length:Int)≠(x2.length:Int))) then
 some false
 else
 bG fuel x1 x2 0)
def bG (fuel:Nat) (x1:(List aB)) (x2:(List aB)) (g2:Int):Option Bool :=
 match fuel with
 | 0=>none
 | fuel+1 =>
 (bif (decide (g2 < (x1.length:Int))) then
 (idx x1 g2).bind fun v6 =>
 (idx x2 g2).bind fun v7 =>
 (cD fuel v6 v7).bind fun v8 =>
 (bif (!v8) then
 some false
 else
 bG fuel x1 x2 (g2+1))
 else
 some true)
end
mutual
def oE (fuel:Nat) (x1:Hit):Option Bool :=
 match fuel with
 | 0=>none
 | fuel+1 =>
 (lG fuel x1.name).bind fun v1 =>
 (bif (!v1) then
 some false
 else
 (bif (decide (x1.name.name=(⟨#[46,46,46]⟩:ByteArray))) then
 some false
 else
 (bif (decide (x1.name.name=(⟨#[95]⟩:ByteArray))) then
 some false
 else
 (lF fuel x1.depth 0 3).bind fun v5 =>
 (bif (!v5) then
 some false
 else
 (bif (decide (x1.depth=0)) then
 (fS fuel x1.one).bind fun v8 =>
 (bif v8 then
 some (decide ((x1.many.length:Int)=0))
 else
 some false)
 else
 (cD fuel x1.one (aB.mk 0 (⟨#[]⟩:ByteArray) 0 ([]:List Int) ([]:List aB))).bind fun v10 =>
 (bif v10 then
 (bif (decide ((x1.many.length:Int)<=400)) then
 (cZ fuel x1.many x1).bind fun v13 =>
 some (!v13)
 else
 some false)
 else
 some false))))))
def nH (fuel:Nat) (x1:Hit) (o1:Hit):Option Bool :=
 match fuel with
 | 0=>none
 | fuel+1 =>
 (cD fuel x1.name o1.name).bind fun v1 =>
 (bif (!v1) then
 some true
 else
 (bif (decide (x1.depth≠(w64 (o1.depth-1)))) then
 some true
 else
 (oE fuel x1).bind fun v4 =>
 some (!v4)))
def cZ (fuel:Nat) (x1:(List Hit)) (o1:Hit):Option Bool :=
 match fuel with
 | 0=>none
 | fuel+1 =>
 (dZ fuel x1 o1).bind fun v1 =>
 some (decide (0<=v1))
def dZ (fuel:Nat) (x1:(List Hit)) (o1:Hit):Option Int :=
 match fuel with
 | 0=>none
 | fuel+1 =>
 bK fuel x1 o1 0
def bK (fuel:Nat) (x1:(List Hit)) (o1:Hit) (g1:Int):Option Int :=
 match fuel with
 | 0=>none
 | fuel+1 =>
 (bif (decide (g1 < (x1.length:Int))) then
 (idx x1 g1).bind fun v5 =>
 (nH fuel v5 o1).bind fun v6 =>
 (bif v6 then
 some g1
 else
 bK fuel x1 o1 (g1+1))
 else
 some (-1))
end
def nI (fuel:Nat) (x1:Hit) (o1:aB):Option Bool :=
 (cD fuel x1.name o1).bind fun v1 =>
 some v1
def aV (fuel:Nat) (x1:(List Hit)) (o1:aB) (g1:Int):Option Int :=
 match fuel with
 | 0=>none
 | fuel+1 =>
 (bif (decide (g1 < (x1.length:Int))) then
 (idx x1 g1).bind fun v5 =>
 (nI fuel v5 o1).bind fun v6 =>
 (bif v6 then
 some g1
 else
 aV fuel x1 o1 (g1+1))
 else
 some (-1))
def d5 (fuel:Nat) (x1:(List Hit)) (o1:aB):Option Int :=
 aV fuel x1 o1 0
def qK (fuel:Nat) (x1:(List Hit)) (x2:aB):Option Int :=
 (d5 fuel x1 x2).bind fun v1 =>
 some v1
def fK (fuel:Nat) (x1:(List Hit)) (g1:Int):Option Bool :=
 match fuel with
 | 0=>none
 | fuel+1 =>
 (bif (decide (g1 < (x1.length:Int))) then
 (idx x1 g1).bind fun v5 =>
 (oE fuel v5).bind fun v6 =>
 (bif (!v6) then
 some false
 else
 (sub x1 0 g1).bind fun v8 =>
 (qK fuel v8 v5.name).bind fun v9 =>
 (bif (decide (0<=v9)) then
 some false
 else
 fK fuel x1 (g1+1)))
 else
 some (decide ((x1.length:Int)<=20)))
def pG (fuel:Nat) (x1:(List Hit)):Option Bool :=
 fK fuel x1 0
def f7 (fuel:Nat) (x1:aB) (x2:ByteArray):Option Bool :=
 (bif (decide (x1.kind=1)) then
 some (decide (x1.name=x2))
 else
 some false)
def l6 (fuel:Nat) (x1:aB):Option Bool :=
 (f7 fuel x1 (⟨#[46,46,46]⟩:ByteArray)).bind fun v1 =>
 some v1
def aS (fuel:Nat) (x1:(List aB)) (g1:Int):Option Int :=
 match fuel with
 | 0=>none
 | fuel+1 =>
 (bif (decide (g1 < (x1.length:Int))) then
 (idx x1 g1).bind fun v5 =>
 (l6 fuel v5).bind fun v6 =>
 (bif v6 then
 some g1
 else
 aS fuel x1 (g1+1))
 else
 some (-1))
def dC (fuel:Nat) (x1:(List aB)):Option Int :=
 aS fuel x1 0
def oL (fuel:Nat) (x1:(List aB)):Option Int :=
 (dC fuel x1).bind fun v1 =>
 some v1
mutual
def lH (fuel:Nat) (x1:aB) (x2:Bool):Option Bool :=
 match fuel with
 | 0=>none
 | fuel+1 =>
 fR fuel x1 x2 0
def fR (fuel:Nat) (x1:aB) (x2:Bool) (g1:Int):Option Bool :=
 match fuel with
 | 0=>none
 | fuel+1 =>
 (bif (decide (g1 < (x1.kids.length:Int))) then
 (idx x1.kids g1).bind fun v5 =>
 (f7 fuel v5 (⟨#[46,46,46]⟩:ByteArray)).bind fun v6 =>
 (bif v6 then
 (bif (decide (g1=0)) then
 some false
 else
 (idx x1.kids (w64 (g1-1))).bind fun v9 =>
 (f7 fuel v9 (⟨#[46,46,46]⟩:ByteArray)).bind fun v10 =>
 (bif v10 then
 some false
 else
 (bif x2 then
 (sub x1.kids 0 g1).bind fun v13 =>
 (oL fuel v13).bind fun v14 =>
 (bif (decide (0<=v14)) then
 some false
 else
 fR fuel x1 x2 (g1+1))
 else
 fR fuel x1 x2 (g1+1))))
 else
 (lH fuel v5 x2).bind fun v16 =>
 (bif (!v16) then
 some false
 else
 fR fuel x1 x2 (g1+1)))
 else
 some true)
end
def pE (fuel:Nat) (x1:aB) (o1:aB):Option Bool :=
 (cD fuel x1 o1).bind fun v1 =>
 some v1
def bF (fuel:Nat) (x1:(List aB)) (o1:aB) (g1:Int):Option Int :=
 match fuel with
 | 0=>none
 | fuel+1 =>
 (bif (decide (g1 < (x1.length:Int))) then
 (idx x1 g1).bind fun v5 =>
 (pE fuel v5 o1).bind fun v6 =>
 (bif v6 then
 some g1
 else
 bF fuel x1 o1 (g1+1))
 else
 some (-1))
def e8 (fuel:Nat) (x1:(List aB)) (o1:aB):Option Int :=
 bF fuel x1 o1 0
def pP (fuel:Nat) (x1:(List aB)) (x2:(List Int)) (x3:aB):Option Int :=
 (bif (decide (x3.kind≠1)) then
 some (-1)
 else
 (e8 fuel x1 x3).bind fun v2 =>
 (bif (decide (v2 < 0)) then
 some (-1)
 else
 (idx x2 v2).bind fun v4 =>
 some v4))
def t8 (fuel:Nat) (x1:aB) (o1:Bool) (o2:(List aB)) (o3:(List Int)) (o4:Int):Option Bool :=
 (bif o1 then
 some true
 else
 (pP fuel o2 o3 x1).bind fun v2 =>
 some (decide (o4 < v2)))
mutual
def dP (fuel:Nat) (x1:aB) (o1:Bool) (o2:(List aB)) (o3:(List Int)) (o4:Int):Option Bool :=
 match fuel with
 | 0=>none
 | fuel+1 =>
 (t8 fuel x1 o1 o2 o3 o4).bind fun v1 =>
 bS fuel x1 o2 o3 o4 0 v1
def bS (fuel:Nat) (x1:aB) (o2:(List aB)) (o3:(List Int)) (o4:Int) (g2:Int) (g3:Bool):Option Bool :=
 match fuel with
 | 0=>none
 | fuel+1 =>
 (bif (decide (g2 < (x1.kids.length:Int))) then
 (idx x1.kids g2).bind fun v7 =>
 (dP fuel v7 g3 o2 o3 o4).bind fun v8 =>
 bS fuel x1 o2 o3 o4 (g2+1) v8
 else
 some g3)
end
mutual
def jL (fuel:Nat) (x1:aB) (x2:(List aB)) (x3:(List Int)) (x4:Int):Option Bool :=
 match fuel with
 | 0=>none
 | fuel+1 =>
 (pP fuel x2 x3 x1).bind fun v1 =>
 (bif (decide (x4 < v1)) then
 some false
 else
 dL fuel x1 x2 x3 x4 0)
def dL (fuel:Nat) (x1:aB) (x2:(List aB)) (x3:(List Int)) (x4:Int) (g3:Int):Option Bool :=
 match fuel with
 | 0=>none
 | fuel+1 =>
 (bif (decide (g3 < (x1.kids.length:Int))) then
 (idx x1.kids g3).bind fun v7 =>
 (f7 fuel v7 (⟨#[46,46,46]⟩:ByteArray)).bind fun v8 =>
 (bif v8 then
 dL fuel x1 x2 x3 x4 (g3+1)
 else
 (bif (decide ((g3+1) < (x1.kids.length:Int))) then
 (idx x1.kids (g3+1)).bind fun v11 =>
 (f7 fuel v11 (⟨#[46,46,46]⟩:ByteArray)).bind fun v12 =>
 (bif v12 then
 (dP fuel v7 false x2 x3 x4).bind fun v14 =>
 (bif (!v14) then
 some false
 else
 (jL fuel v7 x2 x3 (w64 (x4+1))).bind fun v16 =>
 (bif (!v16) then
 some false
 else
 dL fuel x1 x2 x3 x4 (g3+1)))
 else
 (jL fuel v7 x2 x3 x4).bind fun v18 =>
 (bif (!v18) then
 some false
 else
 dL fuel x1 x2 x3 x4 (g3+1)))
 else
 (jL fuel v7 x2 x3 x4).bind fun v20 =>
 (bif (!v20) then
 some false
 else
 dL fuel x1 x2 x3 x4 (g3+1))))
 else
 some true)
end
def lU (fuel:Nat) (x1:aB) (x2:(List aB)) (x3:(List Int)):Option Bool :=
 (fS fuel x1).bind fun v1 =>
 (bif v1 then
 (f7 fuel x1 (⟨#[46,46,46]⟩:ByteArray)).bind fun v3 =>
 (bif (!v3) then
 (lH fuel x1 false).bind fun v5 =>
 (bif v5 then
 (jL fuel x1 x2 x3 0).bind fun v7 =>
 some v7
 else
 some false)
 else
 some false)
 else
 some false)
def k6 (fuel:Nat) (x1:aB) (x2:(List Hit)):Option Bool :=
 (sE fuel x2).bind fun v1 =>
 (pG fuel x2).bind fun v2 =>
 (bif v2 then
 (lU fuel x1 v1.1 v1.2).bind fun v4 =>
 some v4
 else
 some false)
def kY (fuel:Nat) (x1:(List Int)) (x2:(List Int)) (g2:Int):Option Bool :=
 match fuel with
 | 0=>none
 | fuel+1 =>
 (bif (decide (g2 < (x1.length:Int))) then
 (idx x1 g2).bind fun v6 =>
 (idx x2 g2).bind fun v7 =>
 (bif (decide (v6≠v7)) then
 some false
 else
 kY fuel x1 x2 (g2+1))
 else
 some true)
def rG (fuel:Nat) (x1:(List Int)) (x2:(List Int)):Option Bool :=
 (bif (decide ((x1.length:Int)≠(x2.length:Int))) then
 some false
 else
 kY fuel x1 x2 0)
mutual
def dG (fuel:Nat) (x1:aB) (x2:aB):Option Bool :=
 match fuel with
 | 0=>none
 | fuel+1 =>
 (bif (decide (x1.kind≠x2.kind)) then
 some false
 else
 (bif (decide (x1.name≠x2.name)) then
 some false
 else
 (bif (decide (x1.n≠x2.n)) then
 some false
 else
 (rG fuel x1.scopes x2.scopes).bind fun v4 =>
 (bif (!v4) then
 some false
 else
 (jM fuel x1.kids x2.kids).bind fun v6 =>
 (bif (!v6) then
 some false
 else
 some true)))))
def jM (fuel:Nat) (x1:(List aB)) (x2:(List aB)):Option Bool :=
 match fuel with
 | 0=>none
 | fuel+1 =>
 (bif (decide ((x1.length:Int)≠(x2.length:Int))) then
 some false
 else
 fY fuel x1 x2 0)
def fY (fuel:Nat) (x1:(List aB)) (x2:(List aB)) (g2:Int):Option Bool :=
 match fuel with
 | 0=>none
 | fuel+1 =>
 (bif (decide (g2 < (x1.length:Int))) then
 (idx x1 g2).bind fun v6 =>
 (idx x2 g2).bind fun v7 =>
 (dG fuel v6 v7).bind fun v8 =>
 (bif (!v8) then
 some false
 else
 fY fuel x1 x2 (g2+1))
 else
 some true)
end
def rC (fuel:Nat) (x1:aI) (x2:Int):Option Int :=
 (iG fuel x1.pattern x2).bind fun v1 =>
 (bif (decide (v1 < 0)) then
 some (-1)
 else
 (iG fuel x1.template v1).bind fun v3 =>
 (bif (decide (v3 < 0)) then
 some (-1)
 else
 some v3))
def mV (fuel:Nat) (x1:aI):Option aI :=
 (cH fuel x1.pattern).bind fun v1 =>
 (cH fuel x1.template).bind fun v2 =>
 some (aI.mk v1 v2)
def lL (fuel:Nat) (x1:(List aB)) (x2:aB) (g1:Int):Option Bool :=
 match fuel with
 | 0=>none
 | fuel+1 =>
 (bif (decide (g1 < (x1.length:Int))) then
 (idx x1 g1).bind fun v5 =>
 (cY fuel v5 x2).bind fun v6 =>
 (bif v6 then
 some true
 else
 lL fuel x1 x2 (g1+1))
 else
 some false)
def qH (fuel:Nat) (x1:(List aB)) (x2:aB):Option Bool :=
 lL fuel x1 x2 0
def eN (fuel:Nat) (x1:(List aB)) (g1:Int):Option Bool :=
 match fuel with
 | 0=>none
 | fuel+1 =>
 (bif (decide (g1 < (x1.length:Int))) then
 (bif (decide (g1 < 10)) then
 (idx x1 g1).bind fun v5 =>
 (xH fuel v5).bind fun v6 =>
 (bif (!v6) then
 some false
 else
 (idx x1 g1).bind fun v8 =>
 (bif (decide (v8.name=(⟨#[46,46,46]⟩:ByteArray))) then
 some false
 else
 (idx x1 g1).bind fun v10 =>
 (bif (decide (v10.name=(⟨#[95]⟩:ByteArray))) then
 some false
 else
 (sub x1 0 g1).bind fun v12 =>
 (idx x1 g1).bind fun v13 =>
 (qH fuel v12 v13).bind fun v14 =>
 (bif v14 then
 some false
 else
 eN fuel x1 (w64 (g1+1))))))
 else
 some (decide ((x1.length:Int) < 10)))
 else
 some (decide ((x1.length:Int) < 10)))
def lT (fuel:Nat) (x1:(List aB)):Option Bool :=
 eN fuel x1 0
mutual
def nF (fuel:Nat) (x1:aB):Option Bool :=
 match fuel with
 | 0=>none
 | fuel+1 =>
 (dF fuel x1).bind fun v1 =>
 (bif v1 then
 some false
 else
 fX fuel x1 0 0)
def fX (fuel:Nat) (x1:aB) (g3:Int) (g4:Int):Option Bool :=
 match fuel with
 | 0=>none
 | fuel+1 =>
 (bif (decide (g4 < (x1.kids.length:Int))) then
 (idx x1.kids g4).bind fun v8 =>
 (dF fuel v8).bind fun v9 =>
 (bif v9 then
 (bif (decide (g4=0)) then
 some false
 else
 (idx x1.kids (w64 (g4-1))).bind fun v12 =>
 (dF fuel v12).bind fun v13 =>
 (bif v13 then
 some false
 else
 fX fuel x1 (w64 (g3+1)) (g4+1)))
 else
 (idx x1.kids g4).bind fun v15 =>
 (nF fuel v15).bind fun v16 =>
 (bif (!v16) then
 some false
 else
 fX fuel x1 g3 (g4+1)))
 else
 some (decide (g3<=1)))
end
def tM (fuel:Nat) (x1:aB) (x2:(List aB)):Option Bool :=
 (bif (decide (x1.kind=1)) then
 (bif (decide (x1.name≠(⟨#[46,46,46]⟩:ByteArray))) then
 (bif (decide (x1.name≠(⟨#[95]⟩:ByteArray))) then
 (qH fuel x2 x1).bind fun v4 =>
 some (!v4)
 else
 some false)
 else
 some false)
 else
 some false)
mutual
def jK (fuel:Nat) (x1:(List aB)) (x2:aB) (x3:(List aB)):Option (List aB) :=
 match fuel with
 | 0=>none
 | fuel+1 =>
 (tM fuel x2 x3).bind fun v1 =>
 (bif v1 then
 chk (decide ((x1.length+[x2].length)*80<=140737488355328)) <|
 cT fuel x2 x3 (x1++[x2]) 0
 else
 cT fuel x2 x3 x1 0)
def cT (fuel:Nat) (x2:aB) (x3:(List aB)) (g4:(List aB)) (g5:Int):Option (List aB) :=
 match fuel with
 | 0=>none
 | fuel+1 =>
 (bif (decide (g5 < (x2.kids.length:Int))) then
 (idx x2.kids g5).bind fun v9 =>
 (jK fuel g4 v9 x3).bind fun v10 =>
 cT fuel x2 x3 v10 (g5+1)
 else
 some g4)
end
mutual
def dM (fuel:Nat) (x1:(List Int)) (x2:aB) (x3:(List aB)) (x4:Int):Option (List Int) :=
 match fuel with
 | 0=>none
 | fuel+1 =>
 (tM fuel x2 x3).bind fun v1 =>
 (bif v1 then
 chk (decide ((x1.length+[x4].length)*8<=140737488355328)) <|
 bH fuel x2 x3 x4 (x1++[x4]) 0
 else
 bH fuel x2 x3 x4 x1 0)
def bH (fuel:Nat) (x2:aB) (x3:(List aB)) (x4:Int) (g4:(List Int)) (g5:Int):Option (List Int) :=
 match fuel with
 | 0=>none
 | fuel+1 =>
 (bif (decide (g5 < (x2.kids.length:Int))) then
 (bif (decide ((g5+1) < (x2.kids.length:Int))) then
 (idx x2.kids (g5+1)).bind fun v10 =>
 (dF fuel v10).bind fun v11 =>
 (bif v11 then
 (idx x2.kids g5).bind fun v13 =>
 (dM fuel g4 v13 x3 (w64 (x4+1))).bind fun v14 =>
 bH fuel x2 x3 x4 v14 (g5+1)
 else
 (idx x2.kids g5).bind fun v15 =>
 (dM fuel g4 v15 x3 x4).bind fun v16 =>
 bH fuel x2 x3 x4 v16 (g5+1))
 else
 (idx x2.kids g5).bind fun v17 =>
 (dM fuel g4 v17 x3 x4).bind fun v18 =>
 bH fuel x2 x3 x4 v18 (g5+1))
 else
 some g4)
end
mutual
def lJ (fuel:Nat) (g9:(List aB)) (v17:(List Int)) (g18:Int):Option Bool :=
 match fuel with
 | 0=>none
 | fuel+1 =>
 (bif (decide (g18 < (v17.length:Int))) then
 (idx v17 g18).bind fun v22 =>
 (bif (decide (3 < v22)) then
 some false
 else
 lJ fuel g9 v17 (g18+1))
 else
 some (decide ((g9.length:Int)<=20)))
def lK (fuel:Nat) (x1:aB) (x2:(List aB)) (g8:Int) (g9:(List aB)):Option Bool :=
 match fuel with
 | 0=>none
 | fuel+1 =>
 (bif (decide (g8 < (g9.length:Int))) then
 (sub g9 0 g8).bind fun v13 =>
 (idx g9 g8).bind fun v14 =>
 (qH fuel v13 v14).bind fun v15 =>
 (bif v15 then
 some false
 else
 lK fuel x1 x2 (g8+1) g9)
 else
 (dM fuel ([]:List Int) x1 x2 0).bind fun v17 =>
 lJ fuel g9 v17 0)
end
def xG (fuel:Nat) (x1:aB) (x2:(List aB)):Option Bool :=
 (gN fuel x1).bind fun v1 =>
 (bif (!v1) then
 some false
 else
 (lT fuel x2).bind fun v3 =>
 (bif (!v3) then
 some false
 else
 (nF fuel x1).bind fun v5 =>
 (bif (!v5) then
 some false
 else
 (jK fuel ([]:List aB) x1 x2).bind fun v7 =>
 lK fuel x1 x2 0 v7)))
def fV (fuel:Nat) (v1:(List aB)) (v2:(List Int)) (g3:(List Hit)) (g4:Int):Option (List Hit) :=
 match fuel with
 | 0=>none
 | fuel+1 =>
 (bif (decide (g4 < (v1.length:Int))) then
 (idx v1 g4).bind fun v8 =>
 (idx v2 g4).bind fun v9 =>
 (bif (decide (v9=0)) then
 (idx v1 g4).bind fun v11 =>
 chk (decide ((g3.length+[(Hit.mk v8 v9 v11 ([]:List Hit))].length)*192<=140737488355328)) <|
 fV fuel v1 v2 (g3++[(Hit.mk v8 v9 v11 ([]:List Hit))]) (g4+1)
 else
 chk (decide ((g3.length+[(Hit.mk v8 v9 (aB.mk 0 (⟨#[]⟩:ByteArray) 0 ([]:List Int) ([]:List aB)) ([]:List Hit))].length)*192<=140737488355328)) <|
 fV fuel v1 v2 (g3++[(Hit.mk v8 v9 (aB.mk 0 (⟨#[]⟩:ByteArray) 0 ([]:List Int) ([]:List aB)) ([]:List Hit))]) (g4+1))
 else
 some g3)
def r6 (fuel:Nat) (x1:aB) (x2:(List aB)):Option (List Hit) :=
 (jK fuel ([]:List aB) x1 x2).bind fun v1 =>
 (dM fuel ([]:List Int) x1 x2 0).bind fun v2 =>
 fV fuel v1 v2 ([]:List Hit) 0
def lD (fuel:Nat) (x1:aI) (x2:(List aB)):Option Bool :=
 (xG fuel x1.pattern x2).bind fun v1 =>
 (bif v1 then
 (bif (decide (x1.pattern.kind=3)) then
 (bif (decide (0 < (x1.pattern.kids.length:Int))) then
 (gN fuel x1.template).bind fun v5 =>
 (bif v5 then
 (r6 fuel x1.pattern x2).bind fun v7 =>
 (nD fuel x1.template v7).bind fun v8 =>
 some v8
 else
 some false)
 else
 some false)
 else
 some false)
 else
 some false)
def wF (fuel:Nat) (x1:aI) (x2:(List aB)):Option Bool :=
 (lD fuel x1 x2).bind fun v1 =>
 some v1
def t6 (fuel:Nat) (x1:aB) (o1:aB):Option Bool :=
 (cD fuel x1 o1).bind fun v1 =>
 some v1
def bL (fuel:Nat) (x1:(List aB)) (o1:aB) (g1:Int):Option Int :=
 match fuel with
 | 0=>none
 | fuel+1 =>
 (bif (decide (g1 < (x1.length:Int))) then
 (idx x1 g1).bind fun v5 =>
 (t6 fuel v5 o1).bind fun v6 =>
 (bif v6 then
 some g1
 else
 bL fuel x1 o1 (g1+1))
 else
 some (-1))
def gC (fuel:Nat) (x1:(List aB)) (o1:aB):Option Int :=
 bL fuel x1 o1 0
def fB (fuel:Nat) (x1:(List aB)) (o1:aB):Option Bool :=
 (gC fuel x1 o1).bind fun v1 =>
 some (decide (0<=v1))
def qJ (fuel:Nat) (x1:(List aB)) (x2:aB):Option Bool :=
 (fB fuel x1 x2).bind fun v1 =>
 some v1
end Go.Abs
