/- A part of the proof: what the functions that the law calls answer, as pure values. -/
import Derived.Test.YtpdacpnncmemgaaGreatKe05290cf3b33
set_option linter.unusedSimpArgs false
set_option linter.unusedVariables false
set_option maxHeartbeats 4000000
namespace Go.Abs
def ze7 (fuel:Nat) (x1:Int) (x2:Bool):Option Bool :=
 (bif (decide (97≤x1)) then
 (bif (decide (x1≤122)) then
 some true
 else
 (bif (decide (x1=42)) then
 some true
 else
 (bif (decide (x1=63)) then
 some true
 else
 (bif (decide (x1=61)) then
 some true
 else
 (bif (decide (x1=43)) then
 some true
 else
 (bif (decide (x1=60)) then
 some true
 else
 (bif (!x2) then
 (bif (decide (48≤x1)) then
 (bif (decide (x1≤57)) then
 some true
 else
 some (decide (x1=45)))
 else
 some (decide (x1=45)))
 else
 some false)))))))
 else
 (bif (decide (x1=42)) then
 some true
 else
 (bif (decide (x1=63)) then
 some true
 else
 (bif (decide (x1=61)) then
 some true
 else
 (bif (decide (x1=43)) then
 some true
 else
 (bif (decide (x1=60)) then
 some true
 else
 (bif (!x2) then
 (bif (decide (48≤x1)) then
 (bif (decide (x1≤57)) then
 some true
 else
 some (decide (x1=45)))
 else
 some (decide (x1=45)))
 else
 some false)))))))
def zbE (fuel:Nat) (x1:ByteArray) (g3:Int):Option Bool :=
 match fuel with
 | 0=>none
 | fuel+1 =>
 (bif (decide (g3 < (x1.size:Int))) then
 (bif (decide (g3≤12)) then
 (bidx x1 g3).bind fun v7 =>
 (ze7 fuel v7 (decide (g3=0))).bind fun v8 =>
 (bif (!v8) then
 some false
 else
 zbE fuel x1 (w64 (g3+1)))
 else
 (bif (decide (1≤(x1.size:Int))) then
 some (decide ((x1.size:Int)≤12))
 else
 some false))
 else
 (bif (decide (1≤(x1.size:Int))) then
 some (decide ((x1.size:Int)≤12))
 else
 some false))
def zet (fuel:Nat) (x1:ByteArray):Option Bool :=
 (bif (decide (x1=(⟨#[46,46,46]⟩:ByteArray))) then
 some true
 else
 (bif (decide (x1=(⟨#[95]⟩:ByteArray))) then
 some true
 else
 zbE fuel x1 0))
def zbt (fuel:Nat) (x1:(List Int)) (g1:Int):Option Bool :=
 match fuel with
 | 0=>none
 | fuel+1 =>
 (bif (decide (g1 < (x1.length:Int))) then
 (bif (decide (g1≤24)) then
 (idx x1 g1).bind fun v5 =>
 (bif (decide (v5 < 1)) then
 some false
 else
 (idx x1 g1).bind fun v7 =>
 (bif (decide (99 < v7)) then
 some false
 else
 (bif (decide (0 < g1)) then
 (idx x1 g1).bind fun v10 =>
 (idx x1 (w64 (g1-1))).bind fun v11 =>
 (bif (decide (v10≤v11)) then
 some false
 else
 zbt fuel x1 (w64 (g1+1)))
 else
 zbt fuel x1 (w64 (g1+1)))))
 else
 some (decide ((x1.length:Int)≤24)))
 else
 some (decide ((x1.length:Int)≤24)))
def ze6 (fuel:Nat) (x1:(List Int)):Option Bool :=
 zbt fuel x1 0
mutual
def ze8 (fuel:Nat) (x1:Form) (x2:Int):Option Bool :=
 match fuel with
 | 0=>none
 | fuel+1 =>
 (bif (decide (x2=0)) then
 some false
 else
 (bif (decide (x1.kind=1)) then
 (zet fuel x1.name).bind fun v3 =>
 (bif v3 then
 (bif (decide (x1.n=0)) then
 (ze6 fuel x1.scopes).bind fun v6 =>
 (bif v6 then
 some (decide ((x1.kids.length:Int)=0))
 else
 some false)
 else
 some false)
 else
 some false)
 else
 (bif (decide (x1.kind=2)) then
 (bif (decide (x1.name=(⟨#[]⟩:ByteArray))) then
 (bif (decide (0≤x1.n)) then
 (bif (decide (x1.n≤999)) then
 (bif (decide ((x1.scopes.length:Int)=0)) then
 some (decide ((x1.kids.length:Int)=0))
 else
 some false)
 else
 some false)
 else
 some false)
 else
 some false)
 else
 (bif (decide (x1.kind≠3)) then
 some false
 else
 (bif (decide (x1.name≠(⟨#[]⟩:ByteArray))) then
 some false
 else
 (bif (decide (x1.n≠0)) then
 some false
 else
 (bif (decide ((x1.scopes.length:Int)≠0)) then
 some false
 else
 zdK fuel x1 x2 0)))))))
def zdK (fuel:Nat) (x1:Form) (x2:Int) (g17:Int):Option Bool :=
 match fuel with
 | 0=>none
 | fuel+1 =>
 (bif (decide (g17 < (x1.kids.length:Int))) then
 (idx x1.kids g17).bind fun v21 =>
 (ze8 fuel v21 (w64 (x2-1))).bind fun v22 =>
 (bif (!v22) then
 some false
 else
 zdK fuel x1 x2 (g17+1))
 else
 some true)
end
mutual
def zdL (fuel:Nat) (x1:Form):Option Int :=
 match fuel with
 | 0=>none
 | fuel+1 =>
 zb5 fuel x1 1 0
def zb5 (fuel:Nat) (x1:Form) (g1:Int) (g2:Int):Option Int :=
 match fuel with
 | 0=>none
 | fuel+1 =>
 (bif (decide (g2 < (x1.kids.length:Int))) then
 (idx x1.kids g2).bind fun v6 =>
 (zdL fuel v6).bind fun v7 =>
 zb5 fuel x1 (w64 (g1+v7)) (g2+1)
 else
 some g1)
end
def zb1 (fuel:Nat) (x1:Form):Option Bool :=
 (ze8 fuel x1 40).bind fun v1 =>
 (bif v1 then
 (zdL fuel x1).bind fun v3 =>
 some (decide (v3≤400))
 else
 some false)
def zhe (fuel:Nat) (x1:Form):Option Bool :=
 (bif (decide (x1.kind=1)) then
 (zb1 fuel x1).bind fun v2 =>
 some v2
 else
 some false)
def zcU (fuel:Nat) (x1:(List Int)) (x2:(List Int)) (g2:Int):Option Bool :=
 match fuel with
 | 0=>none
 | fuel+1 =>
 (bif (decide (g2 < (x1.length:Int))) then
 (idx x1 g2).bind fun v6 =>
 (idx x2 g2).bind fun v7 =>
 (bif (decide (v6≠v7)) then
 some false
 else
 zcU fuel x1 x2 (g2+1))
 else
 some true)
def zgd (fuel:Nat) (x1:(List Int)) (x2:(List Int)):Option Bool :=
 (bif (decide ((x1.length:Int)≠(x2.length:Int))) then
 some false
 else
 zcU fuel x1 x2 0)
mutual
def zbk (fuel:Nat) (x1:Form) (x2:Form):Option Bool :=
 match fuel with
 | 0=>none
 | fuel+1 =>
 (bif (decide (x1.kind≠x2.kind)) then
 some false
 else
 (bif (decide (x1.name≠x2.name)) then
 some false
 else
 (bif (decide (x1.n≠x2.n)) then
 some false
 else
 (zgd fuel x1.scopes x2.scopes).bind fun v4 =>
 (bif (!v4) then
 some false
 else
 (bif (decide ((x1.kids.length:Int)≠(x2.kids.length:Int))) then
 some false
 else
 zcd fuel x1 x2 0)))))
def zcd (fuel:Nat) (x1:Form) (x2:Form) (g7:Int):Option Bool :=
 match fuel with
 | 0=>none
 | fuel+1 =>
 (bif (decide (g7 < (x1.kids.length:Int))) then
 (idx x1.kids g7).bind fun v11 =>
 (idx x2.kids g7).bind fun v12 =>
 (zbk fuel v11 v12).bind fun v13 =>
 (bif (!v13) then
 some false
 else
 zcd fuel x1 x2 (g7+1))
 else
 some true)
end
def zbd (fuel:Nat) (x1:Form):Option Bool :=
 (bif (decide (x1.kind=1)) then
 some (decide (x1.name=(⟨#[46,46,46]⟩:ByteArray)))
 else
 some false)
def zcT (fuel:Nat) (x1:(List Hit)) (x2:Form) (g1:Int):Option Int :=
 match fuel with
 | 0=>none
 | fuel+1 =>
 (bif (decide (g1 < (x1.length:Int))) then
 (idx x1 g1).bind fun v5 =>
 (zbk fuel v5.name x2).bind fun v6 =>
 (bif v6 then
 some g1
 else
 zcT fuel x1 x2 (g1+1))
 else
 some (-1))
def zg2 (fuel:Nat) (x1:(List Hit)) (x2:Form):Option Int :=
 zcT fuel x1 x2 0
def zeH (fuel:Nat) (x1:(List Hit)) (x2:Form):Option Int :=
 (bif (decide (x2.kind≠1)) then
 some (-1)
 else
 (zg2 fuel x1 x2).bind fun v2 =>
 (bif (decide (v2 < 0)) then
 some (-1)
 else
 (idx x1 v2).bind fun v4 =>
 some v4.depth))
mutual
def zd3 (fuel:Nat) (x1:(List Hit)) (x2:Form):Option Bool :=
 match fuel with
 | 0=>none
 | fuel+1 =>
 (zeH fuel x1 x2).bind fun v1 =>
 (bif (decide (0 < v1)) then
 some true
 else
 zck fuel x1 x2 0)
def zck (fuel:Nat) (x1:(List Hit)) (x2:Form) (g3:Int):Option Bool :=
 match fuel with
 | 0=>none
 | fuel+1 =>
 (bif (decide (g3 < (x2.kids.length:Int))) then
 (idx x2.kids g3).bind fun v7 =>
 (zd3 fuel x1 v7).bind fun v8 =>
 (bif v8 then
 some true
 else
 zck fuel x1 x2 (g3+1))
 else
 some false)
end
def zb0 (fuel:Nat) (x1:(List Hit)) (g1:(List Hit)) (g2:Int):Option (List Hit) :=
 match fuel with
 | 0=>none
 | fuel+1 =>
 (bif (decide (g2 < (x1.length:Int))) then
 (idx x1 g2).bind fun v6 =>
 (idx x1 g2).bind fun v7 =>
 (idx x1 g2).bind fun v8 =>
 (bif (decide (0 < v7.depth)) then
 chk (decide ((g1.length+[(Hit.mk v6.name (w64 (v7.depth-1)) v8.one ([]:List Hit))].length)*192≤140737488355328)) <|
 zb0 fuel x1 (g1++[(Hit.mk v6.name (w64 (v7.depth-1)) v8.one ([]:List Hit))]) (g2+1)
 else
 chk (decide ((g1.length+[(Hit.mk v6.name v7.depth v8.one ([]:List Hit))].length)*192≤140737488355328)) <|
 zb0 fuel x1 (g1++[(Hit.mk v6.name v7.depth v8.one ([]:List Hit))]) (g2+1))
 else
 some g1)
def zgb (fuel:Nat) (x1:(List Hit)):Option (List Hit) :=
 zb0 fuel x1 ([]:List Hit) 0
mutual
def zdH (fuel:Nat) (x1:Form) (x2:(List Hit)):Option Bool :=
 match fuel with
 | 0=>none
 | fuel+1 =>
 (zbd fuel x1).bind fun v1 =>
 (bif v1 then
 some false
 else
 (zeH fuel x2 x1).bind fun v3 =>
 (bif (decide (0 < v3)) then
 some false
 else
 zbJ fuel x1 x2 0))
def zbJ (fuel:Nat) (x1:Form) (x2:(List Hit)) (g5:Int):Option Bool :=
 match fuel with
 | 0=>none
 | fuel+1 =>
 (bif (decide (g5 < (x1.kids.length:Int))) then
 (idx x1.kids g5).bind fun v9 =>
 (zbd fuel v9).bind fun v10 =>
 (bif v10 then
 (bif (decide (g5=0)) then
 some false
 else
 (idx x1.kids (w64 (g5-1))).bind fun v13 =>
 (zbd fuel v13).bind fun v14 =>
 (bif v14 then
 some false
 else
 zbJ fuel x1 x2 (g5+1)))
 else
 (bif (decide ((g5+1) < (x1.kids.length:Int))) then
 (idx x1.kids (g5+1)).bind fun v17 =>
 (zbd fuel v17).bind fun v18 =>
 (bif v18 then
 (idx x1.kids g5).bind fun v20 =>
 (zd3 fuel x2 v20).bind fun v21 =>
 (bif (!v21) then
 some false
 else
 (idx x1.kids g5).bind fun v23 =>
 (zgb fuel x2).bind fun v24 =>
 (zdH fuel v23 v24).bind fun v25 =>
 (bif (!v25) then
 some false
 else
 zbJ fuel x1 x2 (g5+1)))
 else
 (idx x1.kids g5).bind fun v27 =>
 (zdH fuel v27 x2).bind fun v28 =>
 (bif (!v28) then
 some false
 else
 zbJ fuel x1 x2 (g5+1)))
 else
 (idx x1.kids g5).bind fun v30 =>
 (zdH fuel v30 x2).bind fun v31 =>
 (bif (!v31) then
 some false
 else
 zbJ fuel x1 x2 (g5+1))))
 else
 some true)
end
def zb7 (fuel:Nat) (x1:(List Hit)) (g1:(List Form)) (g2:(List Int)) (g3:Int):Option ((List Form) × (List Int)) :=
 match fuel with
 | 0=>none
 | fuel+1 =>
 (bif (decide (g3 < (x1.length:Int))) then
 (idx x1 g3).bind fun v7 =>
 chk (decide ((g1.length+[v7.name].length)*80≤140737488355328)) <|
 chk (decide ((g2.length+[v7.depth].length)*8≤140737488355328)) <|
 zb7 fuel x1 (g1++[v7.name]) (g2++[v7.depth]) (g3+1)
 else
 some (g1,g2))
def zfH (fuel:Nat) (x1:(List Hit)):Option ((List Form) × (List Int)) :=
 zb7 fuel x1 ([]:List Form) ([]:List Int) 0
def zd2 (fuel:Nat) (x1:ByteArray) (x2:Int):Option Int :=
 some (Lib.indexByte x1.data.toList x2.toNat.toUInt8)
def zc3 (fuel:Nat) (x1:Int) (x2:Int) (x3:Int):Option Bool :=
 (bif (decide (x2≤x1)) then
 some (decide (x1≤x3))
 else
 some false)
def zY (fuel:Nat) (x1:ByteArray) (g3:Int):Option Bool :=
 match fuel with
 | 0=>none
 | fuel+1 =>
 (bif (decide (g3 < (x1.size:Int))) then
 (bidx x1 g3).bind fun v6 =>
 (bif (decide (97≤v6)) then
 (bif (decide (v6≤122)) then
 zY fuel x1 (w64 (g3+1))
 else
 (zd2 fuel (⟨#[42,63,61,43,60]⟩:ByteArray) v6).bind fun v9 =>
 (bif (decide (0≤v9)) then
 zY fuel x1 (w64 (g3+1))
 else
 (bif (decide (0 < g3)) then
 (bif (decide (48≤v6)) then
 (bif (decide (v6≤57)) then
 zY fuel x1 (w64 (g3+1))
 else
 (bif (decide (v6=45)) then
 zY fuel x1 (w64 (g3+1))
 else
 some false))
 else
 (bif (decide (v6=45)) then
 zY fuel x1 (w64 (g3+1))
 else
 some false))
 else
 some false)))
 else
 (zd2 fuel (⟨#[42,63,61,43,60]⟩:ByteArray) v6).bind fun v16 =>
 (bif (decide (0≤v16)) then
 zY fuel x1 (w64 (g3+1))
 else
 (bif (decide (0 < g3)) then
 (bif (decide (48≤v6)) then
 (bif (decide (v6≤57)) then
 zY fuel x1 (w64 (g3+1))
 else
 (bif (decide (v6=45)) then
 zY fuel x1 (w64 (g3+1))
 else
 some false))
 else
 (bif (decide (v6=45)) then
 zY fuel x1 (w64 (g3+1))
 else
 some false))
 else
 some false)))
 else
 (zc3 fuel (x1.size:Int) 1 12).bind fun v23 =>
 some v23)
def zdx (fuel:Nat) (x1:ByteArray):Option Bool :=
 (bif (decide (x1=(⟨#[46,46,46]⟩:ByteArray))) then
 some true
 else
 (bif (decide (x1=(⟨#[95]⟩:ByteArray))) then
 some true
 else
 zY fuel x1 0))
def zby (fuel:Nat) (x1:(List Int)) (g1:Int):Option Bool :=
 match fuel with
 | 0=>none
 | fuel+1 =>
 (bif (decide (g1 < (x1.length:Int))) then
 (idx x1 g1).bind fun v5 =>
 (zc3 fuel v5 1 99).bind fun v6 =>
 (bif (!v6) then
 some false
 else
 (bif (decide (0 < g1)) then
 (idx x1 (w64 (g1-1))).bind fun v9 =>
 (bif (decide (v5≤v9)) then
 some false
 else
 zby fuel x1 (g1+1))
 else
 zby fuel x1 (g1+1)))
 else
 some (decide ((x1.length:Int)≤24)))
def zdV (fuel:Nat) (x1:(List Int)):Option Bool :=
 zby fuel x1 0
mutual
def zd8 (fuel:Nat) (x1:Form) (x2:Int) (o1:Int):Option (Bool × Int) :=
 match fuel with
 | 0=>none
 | fuel+1 =>
 (bif (decide ((w64 (o1-1)) < 0)) then
 some (false,(w64 (o1-1)))
 else
 (bif (decide (40 < x2)) then
 some (false,(w64 (o1-1)))
 else
 (bif (decide (x1.kind=1)) then
 (zdx fuel x1.name).bind fun v4 =>
 (bif v4 then
 (bif (decide (x1.n=0)) then
 (zdV fuel x1.scopes).bind fun v7 =>
 (bif v7 then
 some ((decide ((x1.kids.length:Int)=0)),(w64 (o1-1)))
 else
 some (false,(w64 (o1-1))))
 else
 some (false,(w64 (o1-1))))
 else
 some (false,(w64 (o1-1))))
 else
 (bif (decide (x1.kind=2)) then
 (bif (decide (x1.name=(⟨#[]⟩:ByteArray))) then
 (zc3 fuel x1.n 0 999).bind fun v11 =>
 (bif v11 then
 (bif (decide ((x1.scopes.length:Int)=0)) then
 some ((decide ((x1.kids.length:Int)=0)),(w64 (o1-1)))
 else
 some (false,(w64 (o1-1))))
 else
 some (false,(w64 (o1-1))))
 else
 some (false,(w64 (o1-1))))
 else
 (bif (decide (x1.kind=3)) then
 (bif (decide (x1.name≠(⟨#[]⟩:ByteArray))) then
 some (false,(w64 (o1-1)))
 else
 (bif (decide (x1.n≠0)) then
 some (false,(w64 (o1-1)))
 else
 (bif (decide (0 < (x1.scopes.length:Int))) then
 some (false,(w64 (o1-1)))
 else
 zco fuel x1 x2 0 (w64 (o1-1)))))
 else
 some (false,(w64 (o1-1))))))))
def zco (fuel:Nat) (x1:Form) (x2:Int) (g19:Int) (g20:Int):Option (Bool × Int) :=
 match fuel with
 | 0=>none
 | fuel+1 =>
 (bif (decide (g19 < (x1.kids.length:Int))) then
 (idx x1.kids g19).bind fun v24 =>
 (zd8 fuel v24 (w64 (x2+1)) g20).bind fun v25 =>
 (bif (!v25.1) then
 some (false,v25.2)
 else
 zco fuel x1 x2 (g19+1) v25.2)
 else
 some (true,g20))
end
def zbL (fuel:Nat) (x1:Form):Option Bool :=
 (zd8 fuel x1 1 400).bind fun v1 =>
 some v1.1
def zc4 (fuel:Nat) (x1:Form):Option Bool :=
 (bif (decide (x1.kind=1)) then
 (zbL fuel x1).bind fun v2 =>
 some v2
 else
 some false)
def zbH (fuel:Nat) (x1:(List Int)) (x2:(List Int)) (g2:Int):Option Bool :=
 match fuel with
 | 0=>none
 | fuel+1 =>
 (bif (decide (g2 < (x1.length:Int))) then
 (idx x1 g2).bind fun v6 =>
 (idx x2 g2).bind fun v7 =>
 (bif (decide (v6≠v7)) then
 some false
 else
 zbH fuel x1 x2 (g2+1))
 else
 some true)
def zcO (fuel:Nat) (x1:(List Int)) (x2:(List Int)):Option Bool :=
 (bif (decide ((x1.length:Int)≠(x2.length:Int))) then
 some false
 else
 zbH fuel x1 x2 0)
mutual
def zap (fuel:Nat) (x1:Form) (x2:Form):Option Bool :=
 match fuel with
 | 0=>none
 | fuel+1 =>
 (bif (decide (x1.kind=x2.kind)) then
 (bif (decide (x1.name=x2.name)) then
 (bif (decide (x1.n=x2.n)) then
 (zcO fuel x1.scopes x2.scopes).bind fun v4 =>
 (bif v4 then
 (zaT fuel x1.kids x2.kids).bind fun v6 =>
 some v6
 else
 some false)
 else
 some false)
 else
 some false)
 else
 some false)
def zaT (fuel:Nat) (x1:(List Form)) (x2:(List Form)):Option Bool :=
 match fuel with
 | 0=>none
 | fuel+1 =>
 (bif (decide ((x1.length:Int)≠(x2.length:Int))) then
 some false
 else
 zaa fuel x1 x2 0)
def zaa (fuel:Nat) (x1:(List Form)) (x2:(List Form)) (g2:Int):Option Bool :=
 match fuel with
 | 0=>none
 | fuel+1 =>
 (bif (decide (g2 < (x1.length:Int))) then
 (idx x1 g2).bind fun v6 =>
 (idx x2 g2).bind fun v7 =>
 (zap fuel v6 v7).bind fun v8 =>
 (bif (!v8) then
 some false
 else
 zaa fuel x1 x2 (g2+1))
 else
 some true)
end
mutual
def zd1 (fuel:Nat) (x1:Hit):Option Bool :=
 match fuel with
 | 0=>none
 | fuel+1 =>
 (zc4 fuel x1.name).bind fun v1 =>
 (bif (!v1) then
 some false
 else
 (bif (decide (x1.name.name=(⟨#[46,46,46]⟩:ByteArray))) then
 some false
 else
 (bif (decide (x1.name.name=(⟨#[95]⟩:ByteArray))) then
 some false
 else
 (zc3 fuel x1.depth 0 3).bind fun v5 =>
 (bif (!v5) then
 some false
 else
 (bif (decide (x1.depth=0)) then
 (zbL fuel x1.one).bind fun v8 =>
 (bif v8 then
 some (decide ((x1.many.length:Int)=0))
 else
 some false)
 else
 (zap fuel x1.one (Form.mk 0 (⟨#[]⟩:ByteArray) 0 ([]:List Int) ([]:List Form))).bind fun v10 =>
 (bif v10 then
 (bif (decide ((x1.many.length:Int)≤400)) then
 (zaJ fuel x1.many x1).bind fun v13 =>
 some (!v13)
 else
 some false)
 else
 some false))))))
def zdN (fuel:Nat) (x1:Hit) (o1:Hit):Option Bool :=
 match fuel with
 | 0=>none
 | fuel+1 =>
 (zap fuel x1.name o1.name).bind fun v1 =>
 (bif (!v1) then
 some true
 else
 (bif (decide (x1.depth≠(w64 (o1.depth-1)))) then
 some true
 else
 (zd1 fuel x1).bind fun v4 =>
 some (!v4)))
def zaJ (fuel:Nat) (x1:(List Hit)) (o1:Hit):Option Bool :=
 match fuel with
 | 0=>none
 | fuel+1 =>
 (za8 fuel x1 o1).bind fun v1 =>
 some (decide (0≤v1))
def za8 (fuel:Nat) (x1:(List Hit)) (o1:Hit):Option Int :=
 match fuel with
 | 0=>none
 | fuel+1 =>
 zae fuel x1 o1 0
def zae (fuel:Nat) (x1:(List Hit)) (o1:Hit) (g1:Int):Option Int :=
 match fuel with
 | 0=>none
 | fuel+1 =>
 (bif (decide (g1 < (x1.length:Int))) then
 (idx x1 g1).bind fun v5 =>
 (zdN fuel v5 o1).bind fun v6 =>
 (bif v6 then
 some g1
 else
 zae fuel x1 o1 (g1+1))
 else
 some (-1))
end
def zdO (fuel:Nat) (x1:Hit) (o1:Form):Option Bool :=
 (zap fuel x1.name o1).bind fun v1 =>
 some v1
def zO (fuel:Nat) (x1:(List Hit)) (o1:Form) (g1:Int):Option Int :=
 match fuel with
 | 0=>none
 | fuel+1 =>
 (bif (decide (g1 < (x1.length:Int))) then
 (idx x1 g1).bind fun v5 =>
 (zdO fuel v5 o1).bind fun v6 =>
 (bif v6 then
 some g1
 else
 zO fuel x1 o1 (g1+1))
 else
 some (-1))
def za9 (fuel:Nat) (x1:(List Hit)) (o1:Form):Option Int :=
 zO fuel x1 o1 0
def zfg (fuel:Nat) (x1:(List Hit)) (x2:Form):Option Int :=
 (za9 fuel x1 x2).bind fun v1 =>
 some v1
def zbI (fuel:Nat) (x1:(List Hit)) (g1:Int):Option Bool :=
 match fuel with
 | 0=>none
 | fuel+1 =>
 (bif (decide (g1 < (x1.length:Int))) then
 (idx x1 g1).bind fun v5 =>
 (zd1 fuel v5).bind fun v6 =>
 (bif (!v6) then
 some false
 else
 (sub x1 0 g1).bind fun v8 =>
 (zfg fuel v8 v5.name).bind fun v9 =>
 (bif (decide (0≤v9)) then
 some false
 else
 zbI fuel x1 (g1+1)))
 else
 some (decide ((x1.length:Int)≤20)))
def zeC (fuel:Nat) (x1:(List Hit)):Option Bool :=
 zbI fuel x1 0
def zbb (fuel:Nat) (x1:Form) (x2:ByteArray):Option Bool :=
 (bif (decide (x1.kind=1)) then
 some (decide (x1.name=x2))
 else
 some false)
def zdp (fuel:Nat) (x1:Form):Option Bool :=
 (zbb fuel x1 (⟨#[46,46,46]⟩:ByteArray)).bind fun v1 =>
 some v1
def zJ (fuel:Nat) (x1:(List Form)) (g1:Int):Option Int :=
 match fuel with
 | 0=>none
 | fuel+1 =>
 (bif (decide (g1 < (x1.length:Int))) then
 (idx x1 g1).bind fun v5 =>
 (zdp fuel v5).bind fun v6 =>
 (bif v6 then
 some g1
 else
 zJ fuel x1 (g1+1))
 else
 some (-1))
def zaS (fuel:Nat) (x1:(List Form)):Option Int :=
 zJ fuel x1 0
def zd9 (fuel:Nat) (x1:(List Form)):Option Int :=
 (zaS fuel x1).bind fun v1 =>
 some v1
mutual
def zc5 (fuel:Nat) (x1:Form) (x2:Bool):Option Bool :=
 match fuel with
 | 0=>none
 | fuel+1 =>
 zbK fuel x1 x2 0
def zbK (fuel:Nat) (x1:Form) (x2:Bool) (g1:Int):Option Bool :=
 match fuel with
 | 0=>none
 | fuel+1 =>
 (bif (decide (g1 < (x1.kids.length:Int))) then
 (idx x1.kids g1).bind fun v5 =>
 (zbb fuel v5 (⟨#[46,46,46]⟩:ByteArray)).bind fun v6 =>
 (bif v6 then
 (bif (decide (g1=0)) then
 some false
 else
 (idx x1.kids (w64 (g1-1))).bind fun v9 =>
 (zbb fuel v9 (⟨#[46,46,46]⟩:ByteArray)).bind fun v10 =>
 (bif v10 then
 some false
 else
 (bif x2 then
 (sub x1.kids 0 g1).bind fun v13 =>
 (zd9 fuel v13).bind fun v14 =>
 (bif (decide (0≤v14)) then
 some false
 else
 zbK fuel x1 x2 (g1+1))
 else
 zbK fuel x1 x2 (g1+1))))
 else
 (zc5 fuel v5 x2).bind fun v16 =>
 (bif (!v16) then
 some false
 else
 zbK fuel x1 x2 (g1+1)))
 else
 some true)
end
def zeA (fuel:Nat) (x1:Form) (o1:Form):Option Bool :=
 (zap fuel x1 o1).bind fun v1 =>
 some v1
def z7 (fuel:Nat) (x1:(List Form)) (o1:Form) (g1:Int):Option Int :=
 match fuel with
 | 0=>none
 | fuel+1 =>
 (bif (decide (g1 < (x1.length:Int))) then
 (idx x1 g1).bind fun v5 =>
 (zeA fuel v5 o1).bind fun v6 =>
 (bif v6 then
 some g1
 else
 z7 fuel x1 o1 (g1+1))
 else
 some (-1))
def zbv (fuel:Nat) (x1:(List Form)) (o1:Form):Option Int :=
 z7 fuel x1 o1 0
def zeM (fuel:Nat) (x1:(List Form)) (x2:(List Int)) (x3:Form):Option Int :=
 (bif (decide (x3.kind≠1)) then
 some (-1)
 else
 (zbv fuel x1 x3).bind fun v2 =>
 (bif (decide (v2 < 0)) then
 some (-1)
 else
 (idx x2 v2).bind fun v4 =>
 some v4))
def zgn (fuel:Nat) (x1:Form) (o1:Bool) (o2:(List Form)) (o3:(List Int)) (o4:Int):Option Bool :=
 (bif o1 then
 some true
 else
 (zeM fuel o2 o3 x1).bind fun v2 =>
 some (decide (o4 < v2)))
mutual
def za2 (fuel:Nat) (x1:Form) (o1:Bool) (o2:(List Form)) (o3:(List Int)) (o4:Int):Option Bool :=
 match fuel with
 | 0=>none
 | fuel+1 =>
 (zgn fuel x1 o1 o2 o3 o4).bind fun v1 =>
 zao fuel x1 o2 o3 o4 0 v1
def zao (fuel:Nat) (x1:Form) (o2:(List Form)) (o3:(List Int)) (o4:Int) (g2:Int) (g3:Bool):Option Bool :=
 match fuel with
 | 0=>none
 | fuel+1 =>
 (bif (decide (g2 < (x1.kids.length:Int))) then
 (idx x1.kids g2).bind fun v7 =>
 (za2 fuel v7 g3 o2 o3 o4).bind fun v8 =>
 zao fuel x1 o2 o3 o4 (g2+1) v8
 else
 some g3)
end
mutual
def zcC (fuel:Nat) (x1:Form) (x2:(List Form)) (x3:(List Int)) (x4:Int):Option Bool :=
 match fuel with
 | 0=>none
 | fuel+1 =>
 (zeM fuel x2 x3 x1).bind fun v1 =>
 (bif (decide (x4 < v1)) then
 some false
 else
 za1 fuel x1 x2 x3 x4 0)
def za1 (fuel:Nat) (x1:Form) (x2:(List Form)) (x3:(List Int)) (x4:Int) (g3:Int):Option Bool :=
 match fuel with
 | 0=>none
 | fuel+1 =>
 (bif (decide (g3 < (x1.kids.length:Int))) then
 (idx x1.kids g3).bind fun v7 =>
 (zbb fuel v7 (⟨#[46,46,46]⟩:ByteArray)).bind fun v8 =>
 (bif v8 then
 za1 fuel x1 x2 x3 x4 (g3+1)
 else
 (bif (decide ((g3+1) < (x1.kids.length:Int))) then
 (idx x1.kids (g3+1)).bind fun v11 =>
 (zbb fuel v11 (⟨#[46,46,46]⟩:ByteArray)).bind fun v12 =>
 (bif v12 then
 (za2 fuel v7 false x2 x3 x4).bind fun v14 =>
 (bif (!v14) then
 some false
 else
 (zcC fuel v7 x2 x3 (w64 (x4+1))).bind fun v16 =>
 (bif (!v16) then
 some false
 else
 za1 fuel x1 x2 x3 x4 (g3+1)))
 else
 (zcC fuel v7 x2 x3 x4).bind fun v18 =>
 (bif (!v18) then
 some false
 else
 za1 fuel x1 x2 x3 x4 (g3+1)))
 else
 (zcC fuel v7 x2 x3 x4).bind fun v20 =>
 (bif (!v20) then
 some false
 else
 za1 fuel x1 x2 x3 x4 (g3+1))))
 else
 some true)
end
def zdh (fuel:Nat) (x1:Form) (x2:(List Form)) (x3:(List Int)):Option Bool :=
 (zbL fuel x1).bind fun v1 =>
 (bif v1 then
 (zbb fuel x1 (⟨#[46,46,46]⟩:ByteArray)).bind fun v3 =>
 (bif (!v3) then
 (zc5 fuel x1 false).bind fun v5 =>
 (bif v5 then
 (zcC fuel x1 x2 x3 0).bind fun v7 =>
 some v7
 else
 some false)
 else
 some false)
 else
 some false)
def zc0 (fuel:Nat) (x1:Form) (x2:(List Hit)):Option Bool :=
 (zfH fuel x2).bind fun v1 =>
 (zeC fuel x2).bind fun v2 =>
 (bif v2 then
 (zdh fuel x1 v1.1 v1.2).bind fun v4 =>
 some v4
 else
 some false)
def zda (fuel:Nat) (x1:(List Form)) (x2:Form) (g1:Int):Option Bool :=
 match fuel with
 | 0=>none
 | fuel+1 =>
 (bif (decide (g1 < (x1.length:Int))) then
 (idx x1 g1).bind fun v5 =>
 (zbk fuel v5 x2).bind fun v6 =>
 (bif v6 then
 some true
 else
 zda fuel x1 x2 (g1+1))
 else
 some false)
def ze5 (fuel:Nat) (x1:(List Form)) (x2:Form):Option Bool :=
 zda fuel x1 x2 0
def zbm (fuel:Nat) (x1:(List Form)) (g1:Int):Option Bool :=
 match fuel with
 | 0=>none
 | fuel+1 =>
 (bif (decide (g1 < (x1.length:Int))) then
 (bif (decide (g1 < 10)) then
 (idx x1 g1).bind fun v5 =>
 (zhe fuel v5).bind fun v6 =>
 (bif (!v6) then
 some false
 else
 (idx x1 g1).bind fun v8 =>
 (bif (decide (v8.name=(⟨#[46,46,46]⟩:ByteArray))) then
 some false
 else
 (idx x1 g1).bind fun v10 =>
 (bif (decide (v10.name=(⟨#[95]⟩:ByteArray))) then
 some false
 else
 (sub x1 0 g1).bind fun v12 =>
 (idx x1 g1).bind fun v13 =>
 (ze5 fuel v12 v13).bind fun v14 =>
 (bif v14 then
 some false
 else
 zbm fuel x1 (w64 (g1+1))))))
 else
 some (decide ((x1.length:Int) < 10)))
 else
 some (decide ((x1.length:Int) < 10)))
def zdg (fuel:Nat) (x1:(List Form)):Option Bool :=
 zbm fuel x1 0
mutual
def zdI (fuel:Nat) (x1:Form):Option Bool :=
 match fuel with
 | 0=>none
 | fuel+1 =>
 (zbd fuel x1).bind fun v1 =>
 (bif v1 then
 some false
 else
 zbO fuel x1 0 0)
def zbO (fuel:Nat) (x1:Form) (g3:Int) (g4:Int):Option Bool :=
 match fuel with
 | 0=>none
 | fuel+1 =>
 (bif (decide (g4 < (x1.kids.length:Int))) then
 (idx x1.kids g4).bind fun v8 =>
 (zbd fuel v8).bind fun v9 =>
 (bif v9 then
 (bif (decide (g4=0)) then
 some false
 else
 (idx x1.kids (w64 (g4-1))).bind fun v12 =>
 (zbd fuel v12).bind fun v13 =>
 (bif v13 then
 some false
 else
 zbO fuel x1 (w64 (g3+1)) (g4+1)))
 else
 (idx x1.kids g4).bind fun v15 =>
 (zdI fuel v15).bind fun v16 =>
 (bif (!v16) then
 some false
 else
 zbO fuel x1 g3 (g4+1)))
 else
 some (decide (g3≤1)))
end
def zf6 (fuel:Nat) (x1:Form) (x2:(List Form)):Option Bool :=
 (bif (decide (x1.kind=1)) then
 (bif (decide (x1.name≠(⟨#[46,46,46]⟩:ByteArray))) then
 (bif (decide (x1.name≠(⟨#[95]⟩:ByteArray))) then
 (ze5 fuel x2 x1).bind fun v4 =>
 some (!v4)
 else
 some false)
 else
 some false)
 else
 some false)
mutual
def zdA (fuel:Nat) (x1:(List Form)) (x2:Form) (x3:(List Form)):Option (List Form) :=
 match fuel with
 | 0=>none
 | fuel+1 =>
 (zf6 fuel x2 x3).bind fun v1 =>
 (bif v1 then
 chk (decide ((x1.length+[x2].length)*80≤140737488355328)) <|
 zaG fuel x2 x3 (x1++[x2]) 0
 else
 zaG fuel x2 x3 x1 0)
def zaG (fuel:Nat) (x2:Form) (x3:(List Form)) (g4:(List Form)) (g5:Int):Option (List Form) :=
 match fuel with
 | 0=>none
 | fuel+1 =>
 (bif (decide (g5 < (x2.kids.length:Int))) then
 (idx x2.kids g5).bind fun v9 =>
 (zdA fuel g4 v9 x3).bind fun v10 =>
 zaG fuel x2 x3 v10 (g5+1)
 else
 some g4)
end
mutual
def zbD (fuel:Nat) (x1:(List Int)) (x2:Form) (x3:(List Form)) (x4:Int):Option (List Int) :=
 match fuel with
 | 0=>none
 | fuel+1 =>
 (zf6 fuel x2 x3).bind fun v1 =>
 (bif v1 then
 chk (decide ((x1.length+[x4].length)*8≤140737488355328)) <|
 zab fuel x2 x3 x4 (x1++[x4]) 0
 else
 zab fuel x2 x3 x4 x1 0)
def zab (fuel:Nat) (x2:Form) (x3:(List Form)) (x4:Int) (g4:(List Int)) (g5:Int):Option (List Int) :=
 match fuel with
 | 0=>none
 | fuel+1 =>
 (bif (decide (g5 < (x2.kids.length:Int))) then
 (bif (decide ((g5+1) < (x2.kids.length:Int))) then
 (idx x2.kids (g5+1)).bind fun v10 =>
 (zbd fuel v10).bind fun v11 =>
 (bif v11 then
 (idx x2.kids g5).bind fun v13 =>
 (zbD fuel g4 v13 x3 (w64 (x4+1))).bind fun v14 =>
 zab fuel x2 x3 x4 v14 (g5+1)
 else
 (idx x2.kids g5).bind fun v15 =>
 (zbD fuel g4 v15 x3 x4).bind fun v16 =>
 zab fuel x2 x3 x4 v16 (g5+1))
 else
 (idx x2.kids g5).bind fun v17 =>
 (zbD fuel g4 v17 x3 x4).bind fun v18 =>
 zab fuel x2 x3 x4 v18 (g5+1))
 else
 some g4)
end
mutual
def zc8 (fuel:Nat) (g9:(List Form)) (v17:(List Int)) (g18:Int):Option Bool :=
 match fuel with
 | 0=>none
 | fuel+1 =>
 (bif (decide (g18 < (v17.length:Int))) then
 (idx v17 g18).bind fun v22 =>
 (bif (decide (3 < v22)) then
 some false
 else
 zc8 fuel g9 v17 (g18+1))
 else
 some (decide ((g9.length:Int)≤20)))
def zc9 (fuel:Nat) (x1:Form) (x2:(List Form)) (g8:Int) (g9:(List Form)):Option Bool :=
 match fuel with
 | 0=>none
 | fuel+1 =>
 (bif (decide (g8 < (g9.length:Int))) then
 (sub g9 0 g8).bind fun v13 =>
 (idx g9 g8).bind fun v14 =>
 (ze5 fuel v13 v14).bind fun v15 =>
 (bif v15 then
 some false
 else
 zc9 fuel x1 x2 (g8+1) g9)
 else
 (zbD fuel ([]:List Int) x1 x2 0).bind fun v17 =>
 zc8 fuel g9 v17 0)
end
def zhd (fuel:Nat) (x1:Form) (x2:(List Form)):Option Bool :=
 (zb1 fuel x1).bind fun v1 =>
 (bif (!v1) then
 some false
 else
 (zdg fuel x2).bind fun v3 =>
 (bif (!v3) then
 some false
 else
 (zdI fuel x1).bind fun v5 =>
 (bif (!v5) then
 some false
 else
 (zdA fuel ([]:List Form) x1 x2).bind fun v7 =>
 zc9 fuel x1 x2 0 v7)))
def zbN (fuel:Nat) (v1:(List Form)) (v2:(List Int)) (g3:(List Hit)) (g4:Int):Option (List Hit) :=
 match fuel with
 | 0=>none
 | fuel+1 =>
 (bif (decide (g4 < (v1.length:Int))) then
 (idx v1 g4).bind fun v8 =>
 (idx v2 g4).bind fun v9 =>
 (bif (decide (v9=0)) then
 (idx v1 g4).bind fun v11 =>
 chk (decide ((g3.length+[(Hit.mk v8 v9 v11 ([]:List Hit))].length)*192≤140737488355328)) <|
 zbN fuel v1 v2 (g3++[(Hit.mk v8 v9 v11 ([]:List Hit))]) (g4+1)
 else
 chk (decide ((g3.length+[(Hit.mk v8 v9 (Form.mk 0 (⟨#[]⟩:ByteArray) 0 ([]:List Int) ([]:List Form)) ([]:List Hit))].length)*192≤140737488355328)) <|
 zbN fuel v1 v2 (g3++[(Hit.mk v8 v9 (Form.mk 0 (⟨#[]⟩:ByteArray) 0 ([]:List Int) ([]:List Form)) ([]:List Hit))]) (g4+1))
 else
 some g3)
def zfx (fuel:Nat) (x1:Form) (x2:(List Form)):Option (List Hit) :=
 (zdA fuel ([]:List Form) x1 x2).bind fun v1 =>
 (zbD fuel ([]:List Int) x1 x2 0).bind fun v2 =>
 zbN fuel v1 v2 ([]:List Hit) 0
def zc2 (fuel:Nat) (x1:Rule) (x2:(List Form)):Option Bool :=
 (zhd fuel x1.pattern x2).bind fun v1 =>
 (bif v1 then
 (bif (decide (x1.pattern.kind=3)) then
 (bif (decide (0 < (x1.pattern.kids.length:Int))) then
 (zb1 fuel x1.template).bind fun v5 =>
 (bif v5 then
 (zfx fuel x1.pattern x2).bind fun v7 =>
 (zdH fuel x1.template v7).bind fun v8 =>
 some v8
 else
 some false)
 else
 some false)
 else
 some false)
 else
 some false)
def zgS (fuel:Nat) (x1:Rule) (x2:(List Form)):Option Bool :=
 (zc2 fuel x1 x2).bind fun v1 =>
 some v1
def zgo (fuel:Nat) (x1:Form) (o1:Form):Option Bool :=
 (zap fuel x1 o1).bind fun v1 =>
 some v1
def zaf (fuel:Nat) (x1:(List Form)) (o1:Form) (g1:Int):Option Int :=
 match fuel with
 | 0=>none
 | fuel+1 =>
 (bif (decide (g1 < (x1.length:Int))) then
 (idx x1 g1).bind fun v5 =>
 (zgo fuel v5 o1).bind fun v6 =>
 (bif v6 then
 some g1
 else
 zaf fuel x1 o1 (g1+1))
 else
 some (-1))
def zbS (fuel:Nat) (x1:(List Form)) (o1:Form):Option Int :=
 zaf fuel x1 o1 0
def zbx (fuel:Nat) (x1:(List Form)) (o1:Form):Option Bool :=
 (zbS fuel x1 o1).bind fun v1 =>
 some (decide (0≤v1))
def zff (fuel:Nat) (x1:(List Form)) (x2:Form):Option Bool :=
 (zbx fuel x1 x2).bind fun v1 =>
 some v1
def zbq (fuel:Nat) (x1:(List Form)) (g1:Int):Option Bool :=
 match fuel with
 | 0=>none
 | fuel+1 =>
 (bif (decide (g1 < (x1.length:Int))) then
 (idx x1 g1).bind fun v5 =>
 (zc4 fuel v5).bind fun v6 =>
 (bif (!v6) then
 some false
 else
 (bif (decide (v5.name=(⟨#[46,46,46]⟩:ByteArray))) then
 some false
 else
 (bif (decide (v5.name=(⟨#[95]⟩:ByteArray))) then
 some false
 else
 (sub x1 0 g1).bind fun v10 =>
 (zff fuel v10 v5).bind fun v11 =>
 (bif v11 then
 some false
 else
 zbq fuel x1 (g1+1)))))
 else
 some (decide ((x1.length:Int)≤9)))
def zdi (fuel:Nat) (x1:(List Form)):Option Bool :=
 zbq fuel x1 0
def zf7 (fuel:Nat) (x1:Form) (x2:(List Form)):Option Bool :=
 (bif (decide (x1.kind=1)) then
 (bif (decide (x1.name≠(⟨#[46,46,46]⟩:ByteArray))) then
 (bif (decide (x1.name≠(⟨#[95]⟩:ByteArray))) then
 (zff fuel x2 x1).bind fun v4 =>
 some (!v4)
 else
 some false)
 else
 some false)
 else
 some false)
mutual
def za6 (fuel:Nat) (x1:Form) (x2:(List Form)) (x3:Int) (o1:(List Form)) (o2:(List Int)):Option ((List Form) × (List Int)) :=
 match fuel with
 | 0=>none
 | fuel+1 =>
 (zf7 fuel x1 x2).bind fun v1 =>
 (bif v1 then
 chk (decide ((o1.length+[(Form.mk 0 (⟨#[]⟩:ByteArray) 0 ([]:List Int) ([]:List Form))].length)*80≤140737488355328)) <|
 (idx (o1++[(Form.mk 0 (⟨#[]⟩:ByteArray) 0 ([]:List Int) ([]:List Form))]) (o1.length:Int)).bind fun v4 =>
 chk (decide ((o2.length+[x3].length)*8≤140737488355328)) <|
 zM fuel x1 x2 x3 0 ((o1++[(Form.mk 0 (⟨#[]⟩:ByteArray) 0 ([]:List Int) ([]:List Form))]).set (o1.length:Int).toNat x1) (o2++[x3])
 else
 zM fuel x1 x2 x3 0 o1 o2)
def zM (fuel:Nat) (x1:Form) (x2:(List Form)) (x3:Int) (g6:Int) (g7:(List Form)) (g8:(List Int)):Option ((List Form) × (List Int)) :=
 match fuel with
 | 0=>none
 | fuel+1 =>
 (bif (decide (g6 < (x1.kids.length:Int))) then
 (idx x1.kids g6).bind fun v12 =>
 (bif (decide ((g6+1) < (x1.kids.length:Int))) then
 (idx x1.kids (g6+1)).bind fun v14 =>
 (zbb fuel v14 (⟨#[46,46,46]⟩:ByteArray)).bind fun v15 =>
 (bif v15 then
 (za6 fuel v12 x2 (w64 (x3+1)) g7 g8).bind fun v17 =>
 zM fuel x1 x2 x3 (g6+1) v17.1 v17.2
 else
 (za6 fuel v12 x2 x3 g7 g8).bind fun v18 =>
 zM fuel x1 x2 x3 (g6+1) v18.1 v18.2)
 else
 (za6 fuel v12 x2 x3 g7 g8).bind fun v19 =>
 zM fuel x1 x2 x3 (g6+1) v19.1 v19.2)
 else
 some (g7,g8))
end
def zd7 (fuel:Nat) (x1:Form) (x2:(List Form)):Option ((List Form) × (List Int)) :=
 (za6 fuel x1 x2 0 ([]:List Form) ([]:List Int)).bind fun v1 =>
 some (v1.1,v1.2)
def zaD (fuel:Nat) (v9:(List Form) × (List Int)) (g10:Int) (g11:(List Form)):Option Bool :=
 match fuel with
 | 0=>none
 | fuel+1 =>
 (bif (decide (g10 < (v9.1.length:Int))) then
 (idx g11 g10).bind fun v14 =>
 (sub g11 0 g10).bind fun v15 =>
 (zff fuel v15 v14).bind fun v16 =>
 (bif v16 then
 some false
 else
 (idx v9.2 g10).bind fun v18 =>
 (bif (decide (3 < v18)) then
 some false
 else
 zaD fuel v9 (w64 (g10+1)) g11))
 else
 some (decide ((g11.length:Int)≤20)))
def zdq (fuel:Nat) (x1:Form) (x2:(List Form)):Option Bool :=
 (zbL fuel x1).bind fun v1 =>
 (bif (!v1) then
 some false
 else
 (zdi fuel x2).bind fun v3 =>
 (bif (!v3) then
 some false
 else
 (zbb fuel x1 (⟨#[46,46,46]⟩:ByteArray)).bind fun v5 =>
 (bif v5 then
 some false
 else
 (zc5 fuel x1 true).bind fun v7 =>
 (bif (!v7) then
 some false
 else
 (zd7 fuel x1 x2).bind fun v9 =>
 zaD fuel v9 0 v9.1))))
def zeB (fuel:Nat) (x1:Rule) (x2:(List Form)):Option Bool :=
 (zdq fuel x1.pattern x2).bind fun v1 =>
 (bif (!v1) then
 some false
 else
 (bif (decide (x1.pattern.kind≠3)) then
 some false
 else
 (bif (decide ((x1.pattern.kids.length:Int)=0)) then
 some false
 else
 (zd7 fuel x1.pattern x2).bind fun v5 =>
 (zdh fuel x1.template v5.1 v5.2).bind fun v6 =>
 some v6)))
def zeI (fuel:Nat) (x1:(List Int)):Option zbY :=
 (bif (decide (2000 < (x1.length:Int))) then
 (sub x1 0 2000).bind fun v3 =>
 some (zbY.mk v3 0)
 else
 some (zbY.mk x1 0))
end Go.Abs
