/- A part of the proof: what the functions that the law calls answer, as pure values. -/
import Derived.Test.YtcebadpiebamdaaGreatK075984cc7243
set_option linter.unusedSimpArgs false
set_option linter.unusedVariables false
set_option maxHeartbeats 4000000
namespace Go.Abs
def zeG (fuel:Nat) (x1:(List Int)) (x2:Int):Option Int :=
 (bif (decide ((w64 (x2-(x1.length:Int))) < 0)) then
 some (-1)
 else
 some (w64 (x2-(x1.length:Int))))
mutual
def zcT (fuel:Nat) (x1:Form) (x2:Int):Option Int :=
 match fuel with
 | 0=>none
 | fuel+1 =>
 (bif (decide ((w64 (x2-(x1.name.size:Int))) < 0)) then
 some (-1)
 else
 (zeG fuel x1.scopes (w64 (x2-(x1.name.size:Int)))).bind fun v2 =>
 (bif (decide (v2 < 0)) then
 some (-1)
 else
 (zcY fuel x1.kids v2).bind fun v4 =>
 (bif (decide (v4 < 0)) then
 some (-1)
 else
 some v4)))
def zcY (fuel:Nat) (x1:(List Form)) (x2:Int):Option Int :=
 match fuel with
 | 0=>none
 | fuel+1 =>
 (bif (decide ((w64 (x2-(x1.length:Int))) < 0)) then
 some (-1)
 else
 zaO fuel x1 (w64 (x2-(x1.length:Int))) 0)
def zaO (fuel:Nat) (x1:(List Form)) (g2:Int) (g3:Int):Option Int :=
 match fuel with
 | 0=>none
 | fuel+1 =>
 (bif (decide (g3 < (x1.length:Int))) then
 (idx x1 g3).bind fun v7 =>
 (zcT fuel v7 g2).bind fun v8 =>
 (bif (decide (v8 < 0)) then
 some (-1)
 else
 zaO fuel x1 v8 (g3+1))
 else
 some g2)
end
def zbA (fuel:Nat) (x1:(List Int)) (g2:Int) (g3:(List Int)):Option (List Int) :=
 match fuel with
 | 0=>none
 | fuel+1 =>
 (bif (decide (g2 < (x1.length:Int))) then
 (idx x1 g2).bind fun v7 =>
 (idx g3 g2).bind fun v8 =>
 zbA fuel x1 (g2+1) (g3.set g2.toNat v7)
 else
 some g3)
def zdg (fuel:Nat) (x1:(List Int)):Option (List Int) :=
 chk (decide (0≤(x1.length:Int))&&decide ((x1.length:Int).toNat*8≤140737488355328)) <|
 zbA fuel x1 0 (List.replicate (x1.length:Int).toNat 0)
mutual
def zaf (fuel:Nat) (x1:Form):Option Form :=
 match fuel with
 | 0=>none
 | fuel+1 =>
 (zdg fuel x1.scopes).bind fun v1 =>
 (zaS fuel x1.kids).bind fun v2 =>
 some (Form.mk x1.kind x1.name x1.n v1 v2)
def zaS (fuel:Nat) (x1:(List Form)):Option (List Form) :=
 match fuel with
 | 0=>none
 | fuel+1 =>
 chk (decide (0≤(x1.length:Int))&&decide ((x1.length:Int).toNat*80≤140737488355328)) <|
 zaw fuel x1 0 (List.replicate (x1.length:Int).toNat (Form.mk 0 (⟨#[]⟩:ByteArray) 0 ([]:List Int) ([]:List Form)))
def zaw (fuel:Nat) (x1:(List Form)) (g2:Int) (g3:(List Form)):Option (List Form) :=
 match fuel with
 | 0=>none
 | fuel+1 =>
 (bif (decide (g2 < (x1.length:Int))) then
 (idx x1 g2).bind fun v7 =>
 (zaf fuel v7).bind fun v8 =>
 (idx g3 g2).bind fun v9 =>
 zaw fuel x1 (g2+1) (g3.set g2.toNat v8)
 else
 some g3)
end
def zeq (fuel:Nat) (x1:Int) (x2:Bool):Option Bool :=
 (bif (decide (97≤x1)) then
 (bif (decide (x1≤122)) then
 some true
 else
 (bif (decide (x1=42)) then
 some true
 else
 (bif (decide (x1=63)) then
 some true
 else
 (bif (decide (x1=61)) then
 some true
 else
 (bif (decide (x1=43)) then
 some true
 else
 (bif (decide (x1=60)) then
 some true
 else
 (bif (!x2) then
 (bif (decide (48≤x1)) then
 (bif (decide (x1≤57)) then
 some true
 else
 some (decide (x1=45)))
 else
 some (decide (x1=45)))
 else
 some false)))))))
 else
 (bif (decide (x1=42)) then
 some true
 else
 (bif (decide (x1=63)) then
 some true
 else
 (bif (decide (x1=61)) then
 some true
 else
 (bif (decide (x1=43)) then
 some true
 else
 (bif (decide (x1=60)) then
 some true
 else
 (bif (!x2) then
 (bif (decide (48≤x1)) then
 (bif (decide (x1≤57)) then
 some true
 else
 some (decide (x1=45)))
 else
 some (decide (x1=45)))
 else
 some false)))))))
def zbq (fuel:Nat) (x1:ByteArray) (g3:Int):Option Bool :=
 match fuel with
 | 0=>none
 | fuel+1 =>
 (bif (decide (g3 < (x1.size:Int))) then
 (bif (decide (g3≤12)) then
 (bidx x1 g3).bind fun v7 =>
 (zeq fuel v7 (decide (g3=0))).bind fun v8 =>
 (bif (!v8) then
 some false
 else
 zbq fuel x1 (w64 (g3+1)))
 else
 (bif (decide (1≤(x1.size:Int))) then
 some (decide ((x1.size:Int)≤12))
 else
 some false))
 else
 (bif (decide (1≤(x1.size:Int))) then
 some (decide ((x1.size:Int)≤12))
 else
 some false))
def zc9 (fuel:Nat) (x1:ByteArray):Option Bool :=
 (bif (decide (x1=(⟨#[46,46,46]⟩:ByteArray))) then
 some true
 else
 (bif (decide (x1=(⟨#[95]⟩:ByteArray))) then
 some true
 else
 zbq fuel x1 0))
def zbi (fuel:Nat) (x1:(List Int)) (g1:Int):Option Bool :=
 match fuel with
 | 0=>none
 | fuel+1 =>
 (bif (decide (g1 < (x1.length:Int))) then
 (bif (decide (g1≤24)) then
 (idx x1 g1).bind fun v5 =>
 (bif (decide (v5 < 1)) then
 some false
 else
 (idx x1 g1).bind fun v7 =>
 (bif (decide (99 < v7)) then
 some false
 else
 (bif (decide (0 < g1)) then
 (idx x1 g1).bind fun v10 =>
 (idx x1 (w64 (g1-1))).bind fun v11 =>
 (bif (decide (v10≤v11)) then
 some false
 else
 zbi fuel x1 (w64 (g1+1)))
 else
 zbi fuel x1 (w64 (g1+1)))))
 else
 some (decide ((x1.length:Int)≤24)))
 else
 some (decide ((x1.length:Int)≤24)))
def zdD (fuel:Nat) (x1:(List Int)):Option Bool :=
 zbi fuel x1 0
mutual
def zer (fuel:Nat) (x1:Form) (x2:Int):Option Bool :=
 match fuel with
 | 0=>none
 | fuel+1 =>
 (bif (decide (x2=0)) then
 some false
 else
 (bif (decide (x1.kind=1)) then
 (zc9 fuel x1.name).bind fun v3 =>
 (bif v3 then
 (bif (decide (x1.n=0)) then
 (zdD fuel x1.scopes).bind fun v6 =>
 (bif v6 then
 some (decide ((x1.kids.length:Int)=0))
 else
 some false)
 else
 some false)
 else
 some false)
 else
 (bif (decide (x1.kind=2)) then
 (bif (decide (x1.name=(⟨#[]⟩:ByteArray))) then
 (bif (decide (0≤x1.n)) then
 (bif (decide (x1.n≤999)) then
 (bif (decide ((x1.scopes.length:Int)=0)) then
 some (decide ((x1.kids.length:Int)=0))
 else
 some false)
 else
 some false)
 else
 some false)
 else
 some false)
 else
 (bif (decide (x1.kind≠3)) then
 some false
 else
 (bif (decide (x1.name≠(⟨#[]⟩:ByteArray))) then
 some false
 else
 (bif (decide (x1.n≠0)) then
 some false
 else
 (bif (decide ((x1.scopes.length:Int)≠0)) then
 some false
 else
 zdt fuel x1 x2 0)))))))
def zdt (fuel:Nat) (x1:Form) (x2:Int) (g17:Int):Option Bool :=
 match fuel with
 | 0=>none
 | fuel+1 =>
 (bif (decide (g17 < (x1.kids.length:Int))) then
 (idx x1.kids g17).bind fun v21 =>
 (zer fuel v21 (w64 (x2-1))).bind fun v22 =>
 (bif (!v22) then
 some false
 else
 zdt fuel x1 x2 (g17+1))
 else
 some true)
end
mutual
def zdu (fuel:Nat) (x1:Form):Option Int :=
 match fuel with
 | 0=>none
 | fuel+1 =>
 zb0 fuel x1 1 0
def zb0 (fuel:Nat) (x1:Form) (g1:Int) (g2:Int):Option Int :=
 match fuel with
 | 0=>none
 | fuel+1 =>
 (bif (decide (g2 < (x1.kids.length:Int))) then
 (idx x1.kids g2).bind fun v6 =>
 (zdu fuel v6).bind fun v7 =>
 zb0 fuel x1 (w64 (g1+v7)) (g2+1)
 else
 some g1)
end
def zcL (fuel:Nat) (x1:Form):Option Bool :=
 (zer fuel x1 40).bind fun v1 =>
 (bif v1 then
 (zdu fuel x1).bind fun v3 =>
 some (decide (v3≤400))
 else
 some false)
def zgs (fuel:Nat) (x1:Form):Option Bool :=
 (bif (decide (x1.kind=1)) then
 (zcL fuel x1).bind fun v2 =>
 some v2
 else
 some false)
def zcK (fuel:Nat) (x1:(List Int)) (x2:(List Int)) (g2:Int):Option Bool :=
 match fuel with
 | 0=>none
 | fuel+1 =>
 (bif (decide (g2 < (x1.length:Int))) then
 (idx x1 g2).bind fun v6 =>
 (idx x2 g2).bind fun v7 =>
 (bif (decide (v6≠v7)) then
 some false
 else
 zcK fuel x1 x2 (g2+1))
 else
 some true)
def zeE (fuel:Nat) (x1:(List Int)) (x2:(List Int)):Option Bool :=
 (bif (decide ((x1.length:Int)≠(x2.length:Int))) then
 some false
 else
 zcK fuel x1 x2 0)
mutual
def zbR (fuel:Nat) (x1:Form) (x2:Form):Option Bool :=
 match fuel with
 | 0=>none
 | fuel+1 =>
 (bif (decide (x1.kind≠x2.kind)) then
 some false
 else
 (bif (decide (x1.name≠x2.name)) then
 some false
 else
 (bif (decide (x1.n≠x2.n)) then
 some false
 else
 (zeE fuel x1.scopes x2.scopes).bind fun v4 =>
 (bif (!v4) then
 some false
 else
 (bif (decide ((x1.kids.length:Int)≠(x2.kids.length:Int))) then
 some false
 else
 zb3 fuel x1 x2 0)))))
def zb3 (fuel:Nat) (x1:Form) (x2:Form) (g7:Int):Option Bool :=
 match fuel with
 | 0=>none
 | fuel+1 =>
 (bif (decide (g7 < (x1.kids.length:Int))) then
 (idx x1.kids g7).bind fun v11 =>
 (idx x2.kids g7).bind fun v12 =>
 (zbR fuel v11 v12).bind fun v13 =>
 (bif (!v13) then
 some false
 else
 zb3 fuel x1 x2 (g7+1))
 else
 some true)
end
def zcs (fuel:Nat) (x1:Form):Option Bool :=
 (bif (decide (x1.kind=1)) then
 some (decide (x1.name=(⟨#[46,46,46]⟩:ByteArray)))
 else
 some false)
def zdU (fuel:Nat) (x1:ByteArray) (x2:Int):Option Int :=
 some (Lib.indexByte x1.data.toList x2.toNat.toUInt8)
def zdl (fuel:Nat) (x1:Int) (x2:Int) (x3:Int):Option Bool :=
 (bif (decide (x2≤x1)) then
 some (decide (x1≤x3))
 else
 some false)
def zR (fuel:Nat) (x1:ByteArray) (g3:Int):Option Bool :=
 match fuel with
 | 0=>none
 | fuel+1 =>
 (bif (decide (g3 < (x1.size:Int))) then
 (bidx x1 g3).bind fun v6 =>
 (bif (decide (97≤v6)) then
 (bif (decide (v6≤122)) then
 zR fuel x1 (w64 (g3+1))
 else
 (zdU fuel (⟨#[42,63,61,43,60]⟩:ByteArray) v6).bind fun v9 =>
 (bif (decide (0≤v9)) then
 zR fuel x1 (w64 (g3+1))
 else
 (bif (decide (0 < g3)) then
 (bif (decide (48≤v6)) then
 (bif (decide (v6≤57)) then
 zR fuel x1 (w64 (g3+1))
 else
 (bif (decide (v6=45)) then
 zR fuel x1 (w64 (g3+1))
 else
 some false))
 else
 (bif (decide (v6=45)) then
 zR fuel x1 (w64 (g3+1))
 else
 some false))
 else
 some false)))
 else
 (zdU fuel (⟨#[42,63,61,43,60]⟩:ByteArray) v6).bind fun v16 =>
 (bif (decide (0≤v16)) then
 zR fuel x1 (w64 (g3+1))
 else
 (bif (decide (0 < g3)) then
 (bif (decide (48≤v6)) then
 (bif (decide (v6≤57)) then
 zR fuel x1 (w64 (g3+1))
 else
 (bif (decide (v6=45)) then
 zR fuel x1 (w64 (g3+1))
 else
 some false))
 else
 (bif (decide (v6=45)) then
 zR fuel x1 (w64 (g3+1))
 else
 some false))
 else
 some false)))
 else
 (zdl fuel (x1.size:Int) 1 12).bind fun v23 =>
 some v23)
def zdb (fuel:Nat) (x1:ByteArray):Option Bool :=
 (bif (decide (x1=(⟨#[46,46,46]⟩:ByteArray))) then
 some true
 else
 (bif (decide (x1=(⟨#[95]⟩:ByteArray))) then
 some true
 else
 zR fuel x1 0))
def zbn (fuel:Nat) (x1:(List Int)) (g1:Int):Option Bool :=
 match fuel with
 | 0=>none
 | fuel+1 =>
 (bif (decide (g1 < (x1.length:Int))) then
 (idx x1 g1).bind fun v5 =>
 (zdl fuel v5 1 99).bind fun v6 =>
 (bif (!v6) then
 some false
 else
 (bif (decide (0 < g1)) then
 (idx x1 (w64 (g1-1))).bind fun v9 =>
 (bif (decide (v5≤v9)) then
 some false
 else
 zbn fuel x1 (g1+1))
 else
 zbn fuel x1 (g1+1)))
 else
 some (decide ((x1.length:Int)≤24)))
def zdJ (fuel:Nat) (x1:(List Int)):Option Bool :=
 zbn fuel x1 0
mutual
def zd0 (fuel:Nat) (x1:Form) (x2:Int) (o1:Int):Option (Bool × Int) :=
 match fuel with
 | 0=>none
 | fuel+1 =>
 (bif (decide ((w64 (o1-1)) < 0)) then
 some (false,(w64 (o1-1)))
 else
 (bif (decide (40 < x2)) then
 some (false,(w64 (o1-1)))
 else
 (bif (decide (x1.kind=1)) then
 (zdb fuel x1.name).bind fun v4 =>
 (bif v4 then
 (bif (decide (x1.n=0)) then
 (zdJ fuel x1.scopes).bind fun v7 =>
 (bif v7 then
 some ((decide ((x1.kids.length:Int)=0)),(w64 (o1-1)))
 else
 some (false,(w64 (o1-1))))
 else
 some (false,(w64 (o1-1))))
 else
 some (false,(w64 (o1-1))))
 else
 (bif (decide (x1.kind=2)) then
 (bif (decide (x1.name=(⟨#[]⟩:ByteArray))) then
 (zdl fuel x1.n 0 999).bind fun v11 =>
 (bif v11 then
 (bif (decide ((x1.scopes.length:Int)=0)) then
 some ((decide ((x1.kids.length:Int)=0)),(w64 (o1-1)))
 else
 some (false,(w64 (o1-1))))
 else
 some (false,(w64 (o1-1))))
 else
 some (false,(w64 (o1-1))))
 else
 (bif (decide (x1.kind=3)) then
 (bif (decide (x1.name≠(⟨#[]⟩:ByteArray))) then
 some (false,(w64 (o1-1)))
 else
 (bif (decide (x1.n≠0)) then
 some (false,(w64 (o1-1)))
 else
 (bif (decide (0 < (x1.scopes.length:Int))) then
 some (false,(w64 (o1-1)))
 else
 zch fuel x1 x2 0 (w64 (o1-1)))))
 else
 some (false,(w64 (o1-1))))))))
def zch (fuel:Nat) (x1:Form) (x2:Int) (g19:Int) (g20:Int):Option (Bool × Int) :=
 match fuel with
 | 0=>none
 | fuel+1 =>
 (bif (decide (g19 < (x1.kids.length:Int))) then
 (idx x1.kids g19).bind fun v24 =>
 (zd0 fuel v24 (w64 (x2+1)) g20).bind fun v25 =>
 (bif (!v25.1) then
 some (false,v25.2)
 else
 zch fuel x1 x2 (g19+1) v25.2)
 else
 some (true,g20))
end
def zcO (fuel:Nat) (x1:Form):Option Bool :=
 (zd0 fuel x1 1 400).bind fun v1 =>
 some v1.1
def zdo (fuel:Nat) (x1:Form):Option Bool :=
 (bif (decide (x1.kind=1)) then
 (zcO fuel x1).bind fun v2 =>
 some v2
 else
 some false)
def zbt (fuel:Nat) (x1:(List Int)) (x2:(List Int)) (g2:Int):Option Bool :=
 match fuel with
 | 0=>none
 | fuel+1 =>
 (bif (decide (g2 < (x1.length:Int))) then
 (idx x1 g2).bind fun v6 =>
 (idx x2 g2).bind fun v7 =>
 (bif (decide (v6≠v7)) then
 some false
 else
 zbt fuel x1 x2 (g2+1))
 else
 some true)
def zcE (fuel:Nat) (x1:(List Int)) (x2:(List Int)):Option Bool :=
 (bif (decide ((x1.length:Int)≠(x2.length:Int))) then
 some false
 else
 zbt fuel x1 x2 0)
mutual
def zbV (fuel:Nat) (x1:Form) (x2:Form):Option Bool :=
 match fuel with
 | 0=>none
 | fuel+1 =>
 (bif (decide (x1.kind=x2.kind)) then
 (bif (decide (x1.name=x2.name)) then
 (bif (decide (x1.n=x2.n)) then
 (zcE fuel x1.scopes x2.scopes).bind fun v4 =>
 (bif v4 then
 (zaH fuel x1.kids x2.kids).bind fun v6 =>
 some v6
 else
 some false)
 else
 some false)
 else
 some false)
 else
 some false)
def zaH (fuel:Nat) (x1:(List Form)) (x2:(List Form)):Option Bool :=
 match fuel with
 | 0=>none
 | fuel+1 =>
 (bif (decide ((x1.length:Int)≠(x2.length:Int))) then
 some false
 else
 zW fuel x1 x2 0)
def zW (fuel:Nat) (x1:(List Form)) (x2:(List Form)) (g2:Int):Option Bool :=
 match fuel with
 | 0=>none
 | fuel+1 =>
 (bif (decide (g2 < (x1.length:Int))) then
 (idx x1 g2).bind fun v6 =>
 (idx x2 g2).bind fun v7 =>
 (zbV fuel v6 v7).bind fun v8 =>
 (bif (!v8) then
 some false
 else
 zW fuel x1 x2 (g2+1))
 else
 some true)
end
def zdn (fuel:Nat) (x1:Form) (x2:ByteArray):Option Bool :=
 (bif (decide (x1.kind=1)) then
 some (decide (x1.name=x2))
 else
 some false)
def zc2 (fuel:Nat) (x1:Form):Option Bool :=
 (zdn fuel x1 (⟨#[46,46,46]⟩:ByteArray)).bind fun v1 =>
 some v1
def zG (fuel:Nat) (x1:(List Form)) (g1:Int):Option Int :=
 match fuel with
 | 0=>none
 | fuel+1 =>
 (bif (decide (g1 < (x1.length:Int))) then
 (idx x1 g1).bind fun v5 =>
 (zc2 fuel v5).bind fun v6 =>
 (bif v6 then
 some g1
 else
 zG fuel x1 (g1+1))
 else
 some (-1))
def zaG (fuel:Nat) (x1:(List Form)):Option Int :=
 zG fuel x1 0
def zd1 (fuel:Nat) (x1:(List Form)):Option Int :=
 (zaG fuel x1).bind fun v1 =>
 some v1
mutual
def zdp (fuel:Nat) (x1:Form) (x2:Bool):Option Bool :=
 match fuel with
 | 0=>none
 | fuel+1 =>
 zbB fuel x1 x2 0
def zbB (fuel:Nat) (x1:Form) (x2:Bool) (g1:Int):Option Bool :=
 match fuel with
 | 0=>none
 | fuel+1 =>
 (bif (decide (g1 < (x1.kids.length:Int))) then
 (idx x1.kids g1).bind fun v5 =>
 (zdn fuel v5 (⟨#[46,46,46]⟩:ByteArray)).bind fun v6 =>
 (bif v6 then
 (bif (decide (g1=0)) then
 some false
 else
 (idx x1.kids (w64 (g1-1))).bind fun v9 =>
 (zdn fuel v9 (⟨#[46,46,46]⟩:ByteArray)).bind fun v10 =>
 (bif v10 then
 some false
 else
 (bif x2 then
 (sub x1.kids 0 g1).bind fun v13 =>
 (zd1 fuel v13).bind fun v14 =>
 (bif (decide (0≤v14)) then
 some false
 else
 zbB fuel x1 x2 (g1+1))
 else
 zbB fuel x1 x2 (g1+1))))
 else
 (zdp fuel v5 x2).bind fun v16 =>
 (bif (!v16) then
 some false
 else
 zbB fuel x1 x2 (g1+1)))
 else
 some true)
end
def zcM (fuel:Nat) (x1:(List Int)) (x2:(List Int)) (g2:Int):Option Bool :=
 match fuel with
 | 0=>none
 | fuel+1 =>
 (bif (decide (g2 < (x1.length:Int))) then
 (idx x1 g2).bind fun v6 =>
 (idx x2 g2).bind fun v7 =>
 (bif (decide (v6≠v7)) then
 some false
 else
 zcM fuel x1 x2 (g2+1))
 else
 some true)
def zeI (fuel:Nat) (x1:(List Int)) (x2:(List Int)):Option Bool :=
 (bif (decide ((x1.length:Int)≠(x2.length:Int))) then
 some false
 else
 zcM fuel x1 x2 0)
mutual
def zbm (fuel:Nat) (x1:Form) (x2:Form):Option Bool :=
 match fuel with
 | 0=>none
 | fuel+1 =>
 (bif (decide (x1.kind≠x2.kind)) then
 some false
 else
 (bif (decide (x1.name≠x2.name)) then
 some false
 else
 (bif (decide (x1.n≠x2.n)) then
 some false
 else
 (zeI fuel x1.scopes x2.scopes).bind fun v4 =>
 (bif (!v4) then
 some false
 else
 (zct fuel x1.kids x2.kids).bind fun v6 =>
 (bif (!v6) then
 some false
 else
 some true)))))
def zct (fuel:Nat) (x1:(List Form)) (x2:(List Form)):Option Bool :=
 match fuel with
 | 0=>none
 | fuel+1 =>
 (bif (decide ((x1.length:Int)≠(x2.length:Int))) then
 some false
 else
 zbF fuel x1 x2 0)
def zbF (fuel:Nat) (x1:(List Form)) (x2:(List Form)) (g2:Int):Option Bool :=
 match fuel with
 | 0=>none
 | fuel+1 =>
 (bif (decide (g2 < (x1.length:Int))) then
 (idx x1 g2).bind fun v6 =>
 (idx x2 g2).bind fun v7 =>
 (zbm fuel v6 v7).bind fun v8 =>
 (bif (!v8) then
 some false
 else
 zbF fuel x1 x2 (g2+1))
 else
 some true)
end
mutual
def zdS (fuel:Nat) (x1:Hit) (x2:Hit):Option Bool :=
 match fuel with
 | 0=>none
 | fuel+1 =>
 (zbm fuel x1.name x2.name).bind fun v1 =>
 (bif (!v1) then
 some false
 else
 (bif (decide (x1.depth≠x2.depth)) then
 some false
 else
 (zbm fuel x1.one x2.one).bind fun v4 =>
 (bif (!v4) then
 some false
 else
 (zb6 fuel x1.many x2.many).bind fun v6 =>
 (bif (!v6) then
 some false
 else
 some true))))
def zb6 (fuel:Nat) (x1:(List Hit)) (x2:(List Hit)):Option Bool :=
 match fuel with
 | 0=>none
 | fuel+1 =>
 (bif (decide ((x1.length:Int)≠(x2.length:Int))) then
 some false
 else
 zcN fuel x1 x2 0)
def zcN (fuel:Nat) (x1:(List Hit)) (x2:(List Hit)) (g2:Int):Option Bool :=
 match fuel with
 | 0=>none
 | fuel+1 =>
 (bif (decide (g2 < (x1.length:Int))) then
 (idx x1 g2).bind fun v6 =>
 (idx x2 g2).bind fun v7 =>
 (zdS fuel v6 v7).bind fun v8 =>
 (bif (!v8) then
 some false
 else
 zcN fuel x1 x2 (g2+1))
 else
 some true)
end
def zcX (fuel:Nat) (x1:(List Form)) (x2:Form) (g1:Int):Option Bool :=
 match fuel with
 | 0=>none
 | fuel+1 =>
 (bif (decide (g1 < (x1.length:Int))) then
 (idx x1 g1).bind fun v5 =>
 (zbR fuel v5 x2).bind fun v6 =>
 (bif v6 then
 some true
 else
 zcX fuel x1 x2 (g1+1))
 else
 some false)
def zep (fuel:Nat) (x1:(List Form)) (x2:Form):Option Bool :=
 zcX fuel x1 x2 0
def za9 (fuel:Nat) (x1:(List Form)) (g1:Int):Option Bool :=
 match fuel with
 | 0=>none
 | fuel+1 =>
 (bif (decide (g1 < (x1.length:Int))) then
 (bif (decide (g1 < 10)) then
 (idx x1 g1).bind fun v5 =>
 (zgs fuel v5).bind fun v6 =>
 (bif (!v6) then
 some false
 else
 (idx x1 g1).bind fun v8 =>
 (bif (decide (v8.name=(⟨#[46,46,46]⟩:ByteArray))) then
 some false
 else
 (idx x1 g1).bind fun v10 =>
 (bif (decide (v10.name=(⟨#[95]⟩:ByteArray))) then
 some false
 else
 (sub x1 0 g1).bind fun v12 =>
 (idx x1 g1).bind fun v13 =>
 (zep fuel v12 v13).bind fun v14 =>
 (bif v14 then
 some false
 else
 za9 fuel x1 (w64 (g1+1))))))
 else
 some (decide ((x1.length:Int) < 10)))
 else
 some (decide ((x1.length:Int) < 10)))
def zdC (fuel:Nat) (x1:(List Form)):Option Bool :=
 za9 fuel x1 0
mutual
def zds (fuel:Nat) (x1:Form):Option Bool :=
 match fuel with
 | 0=>none
 | fuel+1 =>
 (zcs fuel x1).bind fun v1 =>
 (bif v1 then
 some false
 else
 zbE fuel x1 0 0)
def zbE (fuel:Nat) (x1:Form) (g3:Int) (g4:Int):Option Bool :=
 match fuel with
 | 0=>none
 | fuel+1 =>
 (bif (decide (g4 < (x1.kids.length:Int))) then
 (idx x1.kids g4).bind fun v8 =>
 (zcs fuel v8).bind fun v9 =>
 (bif v9 then
 (bif (decide (g4=0)) then
 some false
 else
 (idx x1.kids (w64 (g4-1))).bind fun v12 =>
 (zcs fuel v12).bind fun v13 =>
 (bif v13 then
 some false
 else
 zbE fuel x1 (w64 (g3+1)) (g4+1)))
 else
 (idx x1.kids g4).bind fun v15 =>
 (zds fuel v15).bind fun v16 =>
 (bif (!v16) then
 some false
 else
 zbE fuel x1 g3 (g4+1)))
 else
 some (decide (g3≤1)))
end
def zfk (fuel:Nat) (x1:Form) (x2:(List Form)):Option Bool :=
 (bif (decide (x1.kind=1)) then
 (bif (decide (x1.name≠(⟨#[46,46,46]⟩:ByteArray))) then
 (bif (decide (x1.name≠(⟨#[95]⟩:ByteArray))) then
 (zep fuel x2 x1).bind fun v4 =>
 some (!v4)
 else
 some false)
 else
 some false)
 else
 some false)
mutual
def zcS (fuel:Nat) (x1:(List Form)) (x2:Form) (x3:(List Form)):Option (List Form) :=
 match fuel with
 | 0=>none
 | fuel+1 =>
 (zfk fuel x2 x3).bind fun v1 =>
 (bif v1 then
 chk (decide ((x1.length+[x2].length)*80≤140737488355328)) <|
 zav fuel x2 x3 (x1++[x2]) 0
 else
 zav fuel x2 x3 x1 0)
def zav (fuel:Nat) (x2:Form) (x3:(List Form)) (g4:(List Form)) (g5:Int):Option (List Form) :=
 match fuel with
 | 0=>none
 | fuel+1 =>
 (bif (decide (g5 < (x2.kids.length:Int))) then
 (idx x2.kids g5).bind fun v9 =>
 (zcS fuel g4 v9 x3).bind fun v10 =>
 zav fuel x2 x3 v10 (g5+1)
 else
 some g4)
end
mutual
def za0 (fuel:Nat) (x1:(List Int)) (x2:Form) (x3:(List Form)) (x4:Int):Option (List Int) :=
 match fuel with
 | 0=>none
 | fuel+1 =>
 (zfk fuel x2 x3).bind fun v1 =>
 (bif v1 then
 chk (decide ((x1.length+[x4].length)*8≤140737488355328)) <|
 zX fuel x2 x3 x4 (x1++[x4]) 0
 else
 zX fuel x2 x3 x4 x1 0)
def zX (fuel:Nat) (x2:Form) (x3:(List Form)) (x4:Int) (g4:(List Int)) (g5:Int):Option (List Int) :=
 match fuel with
 | 0=>none
 | fuel+1 =>
 (bif (decide (g5 < (x2.kids.length:Int))) then
 (bif (decide ((g5+1) < (x2.kids.length:Int))) then
 (idx x2.kids (g5+1)).bind fun v10 =>
 (zcs fuel v10).bind fun v11 =>
 (bif v11 then
 (idx x2.kids g5).bind fun v13 =>
 (za0 fuel g4 v13 x3 (w64 (x4+1))).bind fun v14 =>
 zX fuel x2 x3 x4 v14 (g5+1)
 else
 (idx x2.kids g5).bind fun v15 =>
 (za0 fuel g4 v15 x3 x4).bind fun v16 =>
 zX fuel x2 x3 x4 v16 (g5+1))
 else
 (idx x2.kids g5).bind fun v17 =>
 (za0 fuel g4 v17 x3 x4).bind fun v18 =>
 zX fuel x2 x3 x4 v18 (g5+1))
 else
 some g4)
end
mutual
def zcV (fuel:Nat) (g9:(List Form)) (v17:(List Int)) (g18:Int):Option Bool :=
 match fuel with
 | 0=>none
 | fuel+1 =>
 (bif (decide (g18 < (v17.length:Int))) then
 (idx v17 g18).bind fun v22 =>
 (bif (decide (3 < v22)) then
 some false
 else
 zcV fuel g9 v17 (g18+1))
 else
 some (decide ((g9.length:Int)≤20)))
def zcW (fuel:Nat) (x1:Form) (x2:(List Form)) (g8:Int) (g9:(List Form)):Option Bool :=
 match fuel with
 | 0=>none
 | fuel+1 =>
 (bif (decide (g8 < (g9.length:Int))) then
 (sub g9 0 g8).bind fun v13 =>
 (idx g9 g8).bind fun v14 =>
 (zep fuel v13 v14).bind fun v15 =>
 (bif v15 then
 some false
 else
 zcW fuel x1 x2 (g8+1) g9)
 else
 (za0 fuel ([]:List Int) x1 x2 0).bind fun v17 =>
 zcV fuel g9 v17 0)
end
def zgr (fuel:Nat) (x1:Form) (x2:(List Form)):Option Bool :=
 (zcL fuel x1).bind fun v1 =>
 (bif (!v1) then
 some false
 else
 (zdC fuel x2).bind fun v3 =>
 (bif (!v3) then
 some false
 else
 (zds fuel x1).bind fun v5 =>
 (bif (!v5) then
 some false
 else
 (zcS fuel ([]:List Form) x1 x2).bind fun v7 =>
 zcW fuel x1 x2 0 v7)))
def zfy (fuel:Nat) (x1:Form) (o1:Form):Option Bool :=
 (zbV fuel x1 o1).bind fun v1 =>
 some v1
def z8 (fuel:Nat) (x1:(List Form)) (o1:Form) (g1:Int):Option Int :=
 match fuel with
 | 0=>none
 | fuel+1 =>
 (bif (decide (g1 < (x1.length:Int))) then
 (idx x1 g1).bind fun v5 =>
 (zfy fuel v5 o1).bind fun v6 =>
 (bif v6 then
 some g1
 else
 z8 fuel x1 o1 (g1+1))
 else
 some (-1))
def zbJ (fuel:Nat) (x1:(List Form)) (o1:Form):Option Int :=
 z8 fuel x1 o1 0
def zbk (fuel:Nat) (x1:(List Form)) (o1:Form):Option Bool :=
 (zbJ fuel x1 o1).bind fun v1 =>
 some (decide (0≤v1))
def zev (fuel:Nat) (x1:(List Form)) (x2:Form):Option Bool :=
 (zbk fuel x1 x2).bind fun v1 =>
 some v1
def zbe (fuel:Nat) (x1:(List Form)) (g1:Int):Option Bool :=
 match fuel with
 | 0=>none
 | fuel+1 =>
 (bif (decide (g1 < (x1.length:Int))) then
 (idx x1 g1).bind fun v5 =>
 (zdo fuel v5).bind fun v6 =>
 (bif (!v6) then
 some false
 else
 (bif (decide (v5.name=(⟨#[46,46,46]⟩:ByteArray))) then
 some false
 else
 (bif (decide (v5.name=(⟨#[95]⟩:ByteArray))) then
 some false
 else
 (sub x1 0 g1).bind fun v10 =>
 (zev fuel v10 v5).bind fun v11 =>
 (bif v11 then
 some false
 else
 zbe fuel x1 (g1+1)))))
 else
 some (decide ((x1.length:Int)≤9)))
def zdM (fuel:Nat) (x1:(List Form)):Option Bool :=
 zbe fuel x1 0
def zf3 (fuel:Nat) (x1:Form) (x2:(List Form)):Option Bool :=
 (bif (decide (x1.kind=1)) then
 (bif (decide (x1.name≠(⟨#[46,46,46]⟩:ByteArray))) then
 (bif (decide (x1.name≠(⟨#[95]⟩:ByteArray))) then
 (zev fuel x2 x1).bind fun v4 =>
 some (!v4)
 else
 some false)
 else
 some false)
 else
 some false)
mutual
def zaT (fuel:Nat) (x1:Form) (x2:(List Form)) (x3:Int) (o1:(List Form)) (o2:(List Int)):Option ((List Form) × (List Int)) :=
 match fuel with
 | 0=>none
 | fuel+1 =>
 (zf3 fuel x1 x2).bind fun v1 =>
 (bif v1 then
 chk (decide ((o1.length+[(Form.mk 0 (⟨#[]⟩:ByteArray) 0 ([]:List Int) ([]:List Form))].length)*80≤140737488355328)) <|
 (idx (o1++[(Form.mk 0 (⟨#[]⟩:ByteArray) 0 ([]:List Int) ([]:List Form))]) (o1.length:Int)).bind fun v4 =>
 chk (decide ((o2.length+[x3].length)*8≤140737488355328)) <|
 zI fuel x1 x2 x3 0 ((o1++[(Form.mk 0 (⟨#[]⟩:ByteArray) 0 ([]:List Int) ([]:List Form))]).set (o1.length:Int).toNat x1) (o2++[x3])
 else
 zI fuel x1 x2 x3 0 o1 o2)
def zI (fuel:Nat) (x1:Form) (x2:(List Form)) (x3:Int) (g6:Int) (g7:(List Form)) (g8:(List Int)):Option ((List Form) × (List Int)) :=
 match fuel with
 | 0=>none
 | fuel+1 =>
 (bif (decide (g6 < (x1.kids.length:Int))) then
 (idx x1.kids g6).bind fun v12 =>
 (bif (decide ((g6+1) < (x1.kids.length:Int))) then
 (idx x1.kids (g6+1)).bind fun v14 =>
 (zdn fuel v14 (⟨#[46,46,46]⟩:ByteArray)).bind fun v15 =>
 (bif v15 then
 (zaT fuel v12 x2 (w64 (x3+1)) g7 g8).bind fun v17 =>
 zI fuel x1 x2 x3 (g6+1) v17.1 v17.2
 else
 (zaT fuel v12 x2 x3 g7 g8).bind fun v18 =>
 zI fuel x1 x2 x3 (g6+1) v18.1 v18.2)
 else
 (zaT fuel v12 x2 x3 g7 g8).bind fun v19 =>
 zI fuel x1 x2 x3 (g6+1) v19.1 v19.2)
 else
 some (g7,g8))
end
def zeK (fuel:Nat) (x1:Form) (x2:(List Form)):Option ((List Form) × (List Int)) :=
 (zaT fuel x1 x2 0 ([]:List Form) ([]:List Int)).bind fun v1 =>
 some (v1.1,v1.2)
def zao (fuel:Nat) (v9:(List Form) × (List Int)) (g10:Int) (g11:(List Form)):Option Bool :=
 match fuel with
 | 0=>none
 | fuel+1 =>
 (bif (decide (g10 < (v9.1.length:Int))) then
 (idx g11 g10).bind fun v14 =>
 (sub g11 0 g10).bind fun v15 =>
 (zev fuel v15 v14).bind fun v16 =>
 (bif v16 then
 some false
 else
 (idx v9.2 g10).bind fun v18 =>
 (bif (decide (3 < v18)) then
 some false
 else
 zao fuel v9 (w64 (g10+1)) g11))
 else
 some (decide ((g11.length:Int)≤20)))
def zc3 (fuel:Nat) (x1:Form) (x2:(List Form)):Option Bool :=
 (zcO fuel x1).bind fun v1 =>
 (bif (!v1) then
 some false
 else
 (zdM fuel x2).bind fun v3 =>
 (bif (!v3) then
 some false
 else
 (zdn fuel x1 (⟨#[46,46,46]⟩:ByteArray)).bind fun v5 =>
 (bif v5 then
 some false
 else
 (zdp fuel x1 true).bind fun v7 =>
 (bif (!v7) then
 some false
 else
 (zeK fuel x1 x2).bind fun v9 =>
 zao fuel v9 0 v9.1))))
mutual
def zdf (fuel:Nat) (x1:Form):Option Form :=
 match fuel with
 | 0=>none
 | fuel+1 =>
 chk (decide ((([]:List Int).length+x1.scopes.length)*8≤140737488355328)) <|
 zcf fuel x1 0 ([]:List Form)
def zcf (fuel:Nat) (x1:Form) (g2:Int) (g3:(List Form)):Option Form :=
 match fuel with
 | 0=>none
 | fuel+1 =>
 (bif (decide (g2 < (x1.kids.length:Int))) then
 (idx x1.kids g2).bind fun v7 =>
 (zdf fuel v7).bind fun v8 =>
 chk (decide ((g3.length+[v8].length)*80≤140737488355328)) <|
 zcf fuel x1 (g2+1) (g3++[v8])
 else
 some (Form.mk x1.kind x1.name x1.n (([]:List Int)++x1.scopes) g3))
end
def zb4 (fuel:Nat) (x1:(List Int)):Option (List Int) :=
 chk (decide ((([]:List Int).length+x1.length)*8≤140737488355328)) <|
 some (([]:List Int)++x1)
mutual
def zaD (fuel:Nat) (x1:Form):Option Form :=
 match fuel with
 | 0=>none
 | fuel+1 =>
 (zb4 fuel x1.scopes).bind fun v1 =>
 zaU fuel x1 v1 0 ([]:List Form)
def zaU (fuel:Nat) (x1:Form) (v1:(List Int)) (g2:Int) (g3:(List Form)):Option Form :=
 match fuel with
 | 0=>none
 | fuel+1 =>
 (bif (decide (g2 < (x1.kids.length:Int))) then
 (idx x1.kids g2).bind fun v7 =>
 (zaD fuel v7).bind fun v8 =>
 chk (decide ((g3.length+[v8].length)*80≤140737488355328)) <|
 zaU fuel x1 v1 (g2+1) (g3++[v8])
 else
 some (Form.mk x1.kind x1.name x1.n v1 g3))
end
mutual
def zbc (fuel:Nat) (x1:(List Bind)) (g1:Int) (g19:Int) (g28:Bool):Option Bool :=
 match fuel with
 | 0=>none
 | fuel+1 =>
 (bif g28 then
 some false
 else
 zba fuel x1 g1 (w64 (g19+1)))
def zba (fuel:Nat) (x1:(List Bind)) (g1:Int) (g19:Int):Option Bool :=
 match fuel with
 | 0=>none
 | fuel+1 =>
 (bif (decide (g19 < g1)) then
 (idx x1 g19).bind fun v22 =>
 (idx x1 g1).bind fun v23 =>
 (bif (decide (v22.name=v23.name)) then
 (idx x1 g19).bind fun v25 =>
 (idx x1 g1).bind fun v26 =>
 (zeE fuel v25.scopes v26.scopes).bind fun v27 =>
 zbc fuel x1 g1 g19 v27
 else
 zbc fuel x1 g1 g19 false)
 else
 zbb fuel x1 (w64 (g1+1)))
def zaq (fuel:Nat) (x1:(List Bind)) (g1:Int) (g16:Bool):Option Bool :=
 match fuel with
 | 0=>none
 | fuel+1 =>
 (bif g16 then
 some false
 else
 zba fuel x1 g1 0)
def zbd (fuel:Nat) (x1:(List Bind)) (g1:Int) (g4:Bool):Option Bool :=
 match fuel with
 | 0=>none
 | fuel+1 =>
 (bif g4 then
 (idx x1 g1).bind fun v7 =>
 (zc9 fuel v7.name).bind fun v8 =>
 (bif (!v8) then
 zaq fuel x1 g1 true
 else
 (idx x1 g1).bind fun v10 =>
 (zdD fuel v10.scopes).bind fun v11 =>
 (bif (!v11) then
 zaq fuel x1 g1 true
 else
 (idx x1 g1).bind fun v13 =>
 (bif (decide (v13.id < 1)) then
 zaq fuel x1 g1 true
 else
 (idx x1 g1).bind fun v15 =>
 zaq fuel x1 g1 (decide (999 < v15.id)))))
 else
 some (decide ((x1.length:Int)≤60)))
def zbb (fuel:Nat) (x1:(List Bind)) (g1:Int):Option Bool :=
 match fuel with
 | 0=>none
 | fuel+1 =>
 (bif (decide (g1 < (x1.length:Int))) then
 zbd fuel x1 g1 (decide (g1≤60))
 else
 zbd fuel x1 g1 false)
end
def zdE (fuel:Nat) (x1:(List Bind)):Option Bool :=
 zbb fuel x1 0
def zc0 (fuel:Nat) (x1:(List Int)) (x2:Int) (g1:Int):Option Bool :=
 match fuel with
 | 0=>none
 | fuel+1 =>
 (bif (decide (g1 < (x1.length:Int))) then
 (idx x1 g1).bind fun v5 =>
 (bif (decide (v5=x2)) then
 some true
 else
 zc0 fuel x1 x2 (g1+1))
 else
 some false)
def zfl (fuel:Nat) (x1:(List Int)) (x2:Int):Option Bool :=
 zc0 fuel x1 x2 0
def zbg (fuel:Nat) (x1:(List Int)) (x2:(List Int)) (g1:Int):Option Bool :=
 match fuel with
 | 0=>none
 | fuel+1 =>
 (bif (decide (g1 < (x1.length:Int))) then
 (idx x1 g1).bind fun v5 =>
 (zfl fuel x2 v5).bind fun v6 =>
 (bif (!v6) then
 some false
 else
 zbg fuel x1 x2 (g1+1))
 else
 some true)
def zcl (fuel:Nat) (x1:(List Int)) (x2:(List Int)):Option Bool :=
 zbg fuel x1 x2 0
mutual
def zbZ (fuel:Nat) (x1:(List Bind)) (x2:Form) (g1:(List Int)) (g2:Int) (g10:Bool):Option (List Int) :=
 match fuel with
 | 0=>none
 | fuel+1 =>
 (bif g10 then
 chk (decide ((g1.length+[g2].length)*8≤140737488355328)) <|
 zaV fuel x1 x2 (g1++[g2]) (g2+1)
 else
 zaV fuel x1 x2 g1 (g2+1))
def zaV (fuel:Nat) (x1:(List Bind)) (x2:Form) (g1:(List Int)) (g2:Int):Option (List Int) :=
 match fuel with
 | 0=>none
 | fuel+1 =>
 (bif (decide (g2 < (x1.length:Int))) then
 (idx x1 g2).bind fun v6 =>
 (bif (decide (v6.name=x2.name)) then
 (idx x1 g2).bind fun v8 =>
 (zcl fuel v8.scopes x2.scopes).bind fun v9 =>
 zbZ fuel x1 x2 g1 g2 v9
 else
 zbZ fuel x1 x2 g1 g2 false)
 else
 some g1)
end
def zd5 (fuel:Nat) (x1:(List Bind)) (x2:Form):Option (List Int) :=
 zaV fuel x1 x2 ([]:List Int) 0
mutual
def zcJ (fuel:Nat) (x1:(List Bind)) (v1:(List Int)) (g2:Int) (g7:Int) (g16:Bool):Option (Int × Int) :=
 match fuel with
 | 0=>none
 | fuel+1 =>
 zcd fuel x1 v1 g2 g16 (g7+1)
def zcd (fuel:Nat) (x1:(List Bind)) (v1:(List Int)) (g2:Int) (g6:Bool) (g7:Int):Option (Int × Int) :=
 match fuel with
 | 0=>none
 | fuel+1 =>
 (bif (decide (g7 < (v1.length:Int))) then
 (bif g6 then
 (idx v1 g7).bind fun v11 =>
 (idx x1 v11).bind fun v12 =>
 (idx v1 g2).bind fun v13 =>
 (idx x1 v13).bind fun v14 =>
 (zcl fuel v12.scopes v14.scopes).bind fun v15 =>
 zcJ fuel x1 v1 g2 g7 v15
 else
 zcJ fuel x1 v1 g2 g7 false)
 else
 zc8 fuel x1 v1 g2 g6)
def zc8 (fuel:Nat) (x1:(List Bind)) (v1:(List Int)) (g2:Int) (g18:Bool):Option (Int × Int) :=
 match fuel with
 | 0=>none
 | fuel+1 =>
 (bif g18 then
 (idx v1 g2).bind fun v21 =>
 some (v21,1)
 else
 zce fuel x1 v1 (g2+1))
def zce (fuel:Nat) (x1:(List Bind)) (v1:(List Int)) (g2:Int):Option (Int × Int) :=
 match fuel with
 | 0=>none
 | fuel+1 =>
 (bif (decide (g2 < (v1.length:Int))) then
 zcd fuel x1 v1 g2 true 0
 else
 (bif (decide (0 < (v1.length:Int))) then
 some (0,2)
 else
 some (0,0)))
end
def zeD (fuel:Nat) (x1:(List Bind)) (x2:Form):Option (Int × Int) :=
 (zd5 fuel x1 x2).bind fun v1 =>
 zce fuel x1 v1 0
def zcI (fuel:Nat) (x1:(List Bind)) (x2:Form) (x3:Form) (v1:Int × Int) (v2:Int × Int) (g4:Bool):Option Bool :=
 match fuel with
 | 0=>none
 | fuel+1 =>
 (bif g4 then
 some false
 else
 (bif (decide (v1.2=0)) then
 some (decide (x2.name=x3.name))
 else
 (idx x1 v1.1).bind fun v8 =>
 (idx x1 v2.1).bind fun v9 =>
 some (decide (v8.id=v9.id))))
def zfr (fuel:Nat) (x1:(List Bind)) (x2:Form) (x3:Form):Option Bool :=
 (zeD fuel x1 x2).bind fun v1 =>
 (zeD fuel x1 x3).bind fun v2 =>
 (bif (decide (v1.2≠v2.2)) then
 zcI fuel x1 x2 x3 v1 v2 true
 else
 zcI fuel x1 x2 x3 v1 v2 (decide (v1.2=2)))
mutual
def zcv (fuel:Nat) (x3:(List (List Hit))) (v1:(List Form)) (v2:(List Int)) (g3:(List Hit)) (g4:Int) (v8:Form) (v9:Int) (g10:Int) (g11:(List Hit)):Option (List Hit) :=
 match fuel with
 | 0=>none
 | fuel+1 =>
 (bif (decide (g10 < (x3.length:Int))) then
 (idx x3 g10).bind fun v15 =>
 (idx v15 g4).bind fun v16 =>
 chk (decide ((g11.length+[v16].length)*192≤140737488355328)) <|
 zcv fuel x3 v1 v2 g3 g4 v8 v9 (g10+1) (g11++[v16])
 else
 chk (decide ((g3.length+[(Hit.mk v8 (w64 (v9+1)) (Form.mk 0 (⟨#[]⟩:ByteArray) 0 ([]:List Int) ([]:List Form)) g11)].length)*192≤140737488355328)) <|
 zcw fuel x3 v1 v2 (g3++[(Hit.mk v8 (w64 (v9+1)) (Form.mk 0 (⟨#[]⟩:ByteArray) 0 ([]:List Int) ([]:List Form)) g11)]) (w64 (g4+1)))
def zcw (fuel:Nat) (x3:(List (List Hit))) (v1:(List Form)) (v2:(List Int)) (g3:(List Hit)) (g4:Int):Option (List Hit) :=
 match fuel with
 | 0=>none
 | fuel+1 =>
 (bif (decide (g4 < (v1.length:Int))) then
 (idx v1 g4).bind fun v8 =>
 (idx v2 g4).bind fun v9 =>
 zcv fuel x3 v1 v2 g3 g4 v8 v9 0 ([]:List Hit)
 else
 some g3)
end
end Go.Abs
