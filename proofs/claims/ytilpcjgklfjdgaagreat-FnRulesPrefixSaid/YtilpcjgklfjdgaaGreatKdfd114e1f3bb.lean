/- A part of the proof: what the functions that the law calls answer, as pure values. -/
import Derived.Test.YtilpcjgklfjdgaaGreatK4ff6a9e918d6
set_option linter.unusedSimpArgs false
set_option linter.unusedVariables false
set_option maxHeartbeats 4000000
namespace Go.Abs
def zfG (fuel:Nat) (x1:Int) (x2:Bool):Option Bool :=
 (bif (decide (97≤x1)) then
 (bif (decide (x1≤122)) then
 some true
 else
 (bif (decide (x1=42)) then
 some true
 else
 (bif (decide (x1=63)) then
 some true
 else
 (bif (decide (x1=61)) then
 some true
 else
 (bif (decide (x1=43)) then
 some true
 else
 (bif (decide (x1=60)) then
 some true
 else
 (bif (!x2) then
 (bif (decide (48≤x1)) then
 (bif (decide (x1≤57)) then
 some true
 else
 some (decide (x1=45)))
 else
 some (decide (x1=45)))
 else
 some false)))))))
 else
 (bif (decide (x1=42)) then
 some true
 else
 (bif (decide (x1=63)) then
 some true
 else
 (bif (decide (x1=61)) then
 some true
 else
 (bif (decide (x1=43)) then
 some true
 else
 (bif (decide (x1=60)) then
 some true
 else
 (bif (!x2) then
 (bif (decide (48≤x1)) then
 (bif (decide (x1≤57)) then
 some true
 else
 some (decide (x1=45)))
 else
 some (decide (x1=45)))
 else
 some false)))))))
def zbH (fuel:Nat) (x1:ByteArray) (g3:Int):Option Bool :=
 match fuel with
 | 0=>none
 | fuel+1 =>
 (bif (decide (g3 < (x1.size:Int))) then
 (bif (decide (g3≤12)) then
 (bidx x1 g3).bind fun v7 =>
 (zfG fuel v7 (decide (g3=0))).bind fun v8 =>
 (bif (!v8) then
 some false
 else
 zbH fuel x1 (w64 (g3+1)))
 else
 (bif (decide (1≤(x1.size:Int))) then
 some (decide ((x1.size:Int)≤12))
 else
 some false))
 else
 (bif (decide (1≤(x1.size:Int))) then
 some (decide ((x1.size:Int)≤12))
 else
 some false))
def zd9 (fuel:Nat) (x1:ByteArray):Option Bool :=
 (bif (decide (x1=(⟨#[46,46,46]⟩:ByteArray))) then
 some true
 else
 (bif (decide (x1=(⟨#[95]⟩:ByteArray))) then
 some true
 else
 zbH fuel x1 0))
def zbB (fuel:Nat) (x1:(List Int)) (g1:Int):Option Bool :=
 match fuel with
 | 0=>none
 | fuel+1 =>
 (bif (decide (g1 < (x1.length:Int))) then
 (bif (decide (g1≤24)) then
 (idx x1 g1).bind fun v5 =>
 (bif (decide (v5 < 1)) then
 some false
 else
 (idx x1 g1).bind fun v7 =>
 (bif (decide (99 < v7)) then
 some false
 else
 (bif (decide (0 < g1)) then
 (idx x1 g1).bind fun v10 =>
 (idx x1 (w64 (g1-1))).bind fun v11 =>
 (bif (decide (v10≤v11)) then
 some false
 else
 zbB fuel x1 (w64 (g1+1)))
 else
 zbB fuel x1 (w64 (g1+1)))))
 else
 some (decide ((x1.length:Int)≤24)))
 else
 some (decide ((x1.length:Int)≤24)))
def zez (fuel:Nat) (x1:(List Int)):Option Bool :=
 zbB fuel x1 0
mutual
def zfH (fuel:Nat) (x1:Form) (x2:Int):Option Bool :=
 match fuel with
 | 0=>none
 | fuel+1 =>
 (bif (decide (x2=0)) then
 some false
 else
 (bif (decide (x1.kind=1)) then
 (zd9 fuel x1.name).bind fun v3 =>
 (bif v3 then
 (bif (decide (x1.n=0)) then
 (zez fuel x1.scopes).bind fun v6 =>
 (bif v6 then
 some (decide ((x1.kids.length:Int)=0))
 else
 some false)
 else
 some false)
 else
 some false)
 else
 (bif (decide (x1.kind=2)) then
 (bif (decide (x1.name=(⟨#[]⟩:ByteArray))) then
 (bif (decide (0≤x1.n)) then
 (bif (decide (x1.n≤999)) then
 (bif (decide ((x1.scopes.length:Int)=0)) then
 some (decide ((x1.kids.length:Int)=0))
 else
 some false)
 else
 some false)
 else
 some false)
 else
 some false)
 else
 (bif (decide (x1.kind≠3)) then
 some false
 else
 (bif (decide (x1.name≠(⟨#[]⟩:ByteArray))) then
 some false
 else
 (bif (decide (x1.n≠0)) then
 some false
 else
 (bif (decide ((x1.scopes.length:Int)≠0)) then
 some false
 else
 zeo fuel x1 x2 0)))))))
def zeo (fuel:Nat) (x1:Form) (x2:Int) (g17:Int):Option Bool :=
 match fuel with
 | 0=>none
 | fuel+1 =>
 (bif (decide (g17 < (x1.kids.length:Int))) then
 (idx x1.kids g17).bind fun v21 =>
 (zfH fuel v21 (w64 (x2-1))).bind fun v22 =>
 (bif (!v22) then
 some false
 else
 zeo fuel x1 x2 (g17+1))
 else
 some true)
end
mutual
def zdJ (fuel:Nat) (x1:Form):Option Int :=
 match fuel with
 | 0=>none
 | fuel+1 =>
 zcj fuel x1 1 0
def zcj (fuel:Nat) (x1:Form) (g1:Int) (g2:Int):Option Int :=
 match fuel with
 | 0=>none
 | fuel+1 =>
 (bif (decide (g2 < (x1.kids.length:Int))) then
 (idx x1.kids g2).bind fun v6 =>
 (zdJ fuel v6).bind fun v7 =>
 zcj fuel x1 (w64 (g1+v7)) (g2+1)
 else
 some g1)
end
def zbn (fuel:Nat) (x1:Form):Option Bool :=
 (zfH fuel x1 40).bind fun v1 =>
 (bif v1 then
 (zdJ fuel x1).bind fun v3 =>
 some (decide (v3≤400))
 else
 some false)
def zhY (fuel:Nat) (x1:Form):Option Bool :=
 (bif (decide (x1.kind=1)) then
 (zbn fuel x1).bind fun v2 =>
 some v2
 else
 some false)
def zds (fuel:Nat) (x1:(List Int)) (x2:(List Int)) (g2:Int):Option Bool :=
 match fuel with
 | 0=>none
 | fuel+1 =>
 (bif (decide (g2 < (x1.length:Int))) then
 (idx x1 g2).bind fun v6 =>
 (idx x2 g2).bind fun v7 =>
 (bif (decide (v6≠v7)) then
 some false
 else
 zds fuel x1 x2 (g2+1))
 else
 some true)
def zfX (fuel:Nat) (x1:(List Int)) (x2:(List Int)):Option Bool :=
 (bif (decide ((x1.length:Int)≠(x2.length:Int))) then
 some false
 else
 zds fuel x1 x2 0)
mutual
def zaP (fuel:Nat) (x1:Form) (x2:Form):Option Bool :=
 match fuel with
 | 0=>none
 | fuel+1 =>
 (bif (decide (x1.kind≠x2.kind)) then
 some false
 else
 (bif (decide (x1.name≠x2.name)) then
 some false
 else
 (bif (decide (x1.n≠x2.n)) then
 some false
 else
 (zfX fuel x1.scopes x2.scopes).bind fun v4 =>
 (bif (!v4) then
 some false
 else
 (bif (decide ((x1.kids.length:Int)≠(x2.kids.length:Int))) then
 some false
 else
 zcp fuel x1 x2 0)))))
def zcp (fuel:Nat) (x1:Form) (x2:Form) (g7:Int):Option Bool :=
 match fuel with
 | 0=>none
 | fuel+1 =>
 (bif (decide (g7 < (x1.kids.length:Int))) then
 (idx x1.kids g7).bind fun v11 =>
 (idx x2.kids g7).bind fun v12 =>
 (zaP fuel v11 v12).bind fun v13 =>
 (bif (!v13) then
 some false
 else
 zcp fuel x1 x2 (g7+1))
 else
 some true)
end
def za4 (fuel:Nat) (x1:Form):Option Bool :=
 (bif (decide (x1.kind=1)) then
 some (decide (x1.name=(⟨#[46,46,46]⟩:ByteArray)))
 else
 some false)
def zca (fuel:Nat) (x1:(List Hit)) (x2:Form) (g1:Int):Option Int :=
 match fuel with
 | 0=>none
 | fuel+1 =>
 (bif (decide (g1 < (x1.length:Int))) then
 (idx x1 g1).bind fun v5 =>
 (zaP fuel v5.name x2).bind fun v6 =>
 (bif v6 then
 some g1
 else
 zca fuel x1 x2 (g1+1))
 else
 some (-1))
def zeK (fuel:Nat) (x1:(List Hit)) (x2:Form):Option Int :=
 zca fuel x1 x2 0
def zfm (fuel:Nat) (x1:(List Hit)) (x2:Form):Option Int :=
 (bif (decide (x2.kind≠1)) then
 some (-1)
 else
 (zeK fuel x1 x2).bind fun v2 =>
 (bif (decide (v2 < 0)) then
 some (-1)
 else
 (idx x1 v2).bind fun v4 =>
 some v4.depth))
mutual
def zeJ (fuel:Nat) (x1:(List Hit)) (x2:Form):Option Bool :=
 match fuel with
 | 0=>none
 | fuel+1 =>
 (zfm fuel x1 x2).bind fun v1 =>
 (bif (decide (0 < v1)) then
 some true
 else
 zcy fuel x1 x2 0)
def zcy (fuel:Nat) (x1:(List Hit)) (x2:Form) (g3:Int):Option Bool :=
 match fuel with
 | 0=>none
 | fuel+1 =>
 (bif (decide (g3 < (x2.kids.length:Int))) then
 (idx x2.kids g3).bind fun v7 =>
 (zeJ fuel x1 v7).bind fun v8 =>
 (bif v8 then
 some true
 else
 zcy fuel x1 x2 (g3+1))
 else
 some false)
end
def zb8 (fuel:Nat) (x1:(List Hit)) (g1:(List Hit)) (g2:Int):Option (List Hit) :=
 match fuel with
 | 0=>none
 | fuel+1 =>
 (bif (decide (g2 < (x1.length:Int))) then
 (idx x1 g2).bind fun v6 =>
 (idx x1 g2).bind fun v7 =>
 (idx x1 g2).bind fun v8 =>
 (bif (decide (0 < v7.depth)) then
 chk (decide ((g1.length+[(Hit.mk v6.name (w64 (v7.depth-1)) v8.one ([]:List Hit))].length)*192≤140737488355328)) <|
 zb8 fuel x1 (g1++[(Hit.mk v6.name (w64 (v7.depth-1)) v8.one ([]:List Hit))]) (g2+1)
 else
 chk (decide ((g1.length+[(Hit.mk v6.name v7.depth v8.one ([]:List Hit))].length)*192≤140737488355328)) <|
 zb8 fuel x1 (g1++[(Hit.mk v6.name v7.depth v8.one ([]:List Hit))]) (g2+1))
 else
 some g1)
def zgS (fuel:Nat) (x1:(List Hit)):Option (List Hit) :=
 zb8 fuel x1 ([]:List Hit) 0
mutual
def zel (fuel:Nat) (x1:Form) (x2:(List Hit)):Option Bool :=
 match fuel with
 | 0=>none
 | fuel+1 =>
 (za4 fuel x1).bind fun v1 =>
 (bif v1 then
 some false
 else
 (zfm fuel x2 x1).bind fun v3 =>
 (bif (decide (0 < v3)) then
 some false
 else
 zbN fuel x1 x2 0))
def zbN (fuel:Nat) (x1:Form) (x2:(List Hit)) (g5:Int):Option Bool :=
 match fuel with
 | 0=>none
 | fuel+1 =>
 (bif (decide (g5 < (x1.kids.length:Int))) then
 (idx x1.kids g5).bind fun v9 =>
 (za4 fuel v9).bind fun v10 =>
 (bif v10 then
 (bif (decide (g5=0)) then
 some false
 else
 (idx x1.kids (w64 (g5-1))).bind fun v13 =>
 (za4 fuel v13).bind fun v14 =>
 (bif v14 then
 some false
 else
 zbN fuel x1 x2 (g5+1)))
 else
 (bif (decide ((g5+1) < (x1.kids.length:Int))) then
 (idx x1.kids (g5+1)).bind fun v17 =>
 (za4 fuel v17).bind fun v18 =>
 (bif v18 then
 (idx x1.kids g5).bind fun v20 =>
 (zeJ fuel x2 v20).bind fun v21 =>
 (bif (!v21) then
 some false
 else
 (idx x1.kids g5).bind fun v23 =>
 (zgS fuel x2).bind fun v24 =>
 (zel fuel v23 v24).bind fun v25 =>
 (bif (!v25) then
 some false
 else
 zbN fuel x1 x2 (g5+1)))
 else
 (idx x1.kids g5).bind fun v27 =>
 (zel fuel v27 x2).bind fun v28 =>
 (bif (!v28) then
 some false
 else
 zbN fuel x1 x2 (g5+1)))
 else
 (idx x1.kids g5).bind fun v30 =>
 (zel fuel v30 x2).bind fun v31 =>
 (bif (!v31) then
 some false
 else
 zbN fuel x1 x2 (g5+1))))
 else
 some true)
end
def zck (fuel:Nat) (x1:(List Hit)) (g1:(List Form)) (g2:(List Int)) (g3:Int):Option ((List Form) × (List Int)) :=
 match fuel with
 | 0=>none
 | fuel+1 =>
 (bif (decide (g3 < (x1.length:Int))) then
 (idx x1 g3).bind fun v7 =>
 chk (decide ((g1.length+[v7.name].length)*80≤140737488355328)) <|
 chk (decide ((g2.length+[v7.depth].length)*8≤140737488355328)) <|
 zck fuel x1 (g1++[v7.name]) (g2++[v7.depth]) (g3+1)
 else
 some (g1,g2))
def zgk (fuel:Nat) (x1:(List Hit)):Option ((List Form) × (List Int)) :=
 zck fuel x1 ([]:List Form) ([]:List Int) 0
def zeI (fuel:Nat) (x1:ByteArray) (x2:Int):Option Int :=
 some (Lib.indexByte x1.data.toList x2.toNat.toUInt8)
def zdB (fuel:Nat) (x1:Int) (x2:Int) (x3:Int):Option Bool :=
 (bif (decide (x2≤x1)) then
 some (decide (x1≤x3))
 else
 some false)
def z7 (fuel:Nat) (x1:ByteArray) (g3:Int):Option Bool :=
 match fuel with
 | 0=>none
 | fuel+1 =>
 (bif (decide (g3 < (x1.size:Int))) then
 (bidx x1 g3).bind fun v6 =>
 (bif (decide (97≤v6)) then
 (bif (decide (v6≤122)) then
 z7 fuel x1 (w64 (g3+1))
 else
 (zeI fuel (⟨#[42,63,61,43,60]⟩:ByteArray) v6).bind fun v9 =>
 (bif (decide (0≤v9)) then
 z7 fuel x1 (w64 (g3+1))
 else
 (bif (decide (0 < g3)) then
 (bif (decide (48≤v6)) then
 (bif (decide (v6≤57)) then
 z7 fuel x1 (w64 (g3+1))
 else
 (bif (decide (v6=45)) then
 z7 fuel x1 (w64 (g3+1))
 else
 some false))
 else
 (bif (decide (v6=45)) then
 z7 fuel x1 (w64 (g3+1))
 else
 some false))
 else
 some false)))
 else
 (zeI fuel (⟨#[42,63,61,43,60]⟩:ByteArray) v6).bind fun v16 =>
 (bif (decide (0≤v16)) then
 z7 fuel x1 (w64 (g3+1))
 else
 (bif (decide (0 < g3)) then
 (bif (decide (48≤v6)) then
 (bif (decide (v6≤57)) then
 z7 fuel x1 (w64 (g3+1))
 else
 (bif (decide (v6=45)) then
 z7 fuel x1 (w64 (g3+1))
 else
 some false))
 else
 (bif (decide (v6=45)) then
 z7 fuel x1 (w64 (g3+1))
 else
 some false))
 else
 some false)))
 else
 (zdB fuel (x1.size:Int) 1 12).bind fun v23 =>
 some v23)
def zea (fuel:Nat) (x1:ByteArray):Option Bool :=
 (bif (decide (x1=(⟨#[46,46,46]⟩:ByteArray))) then
 some true
 else
 (bif (decide (x1=(⟨#[95]⟩:ByteArray))) then
 some true
 else
 z7 fuel x1 0))
def zbG (fuel:Nat) (x1:(List Int)) (g1:Int):Option Bool :=
 match fuel with
 | 0=>none
 | fuel+1 =>
 (bif (decide (g1 < (x1.length:Int))) then
 (idx x1 g1).bind fun v5 =>
 (zdB fuel v5 1 99).bind fun v6 =>
 (bif (!v6) then
 some false
 else
 (bif (decide (0 < g1)) then
 (idx x1 (w64 (g1-1))).bind fun v9 =>
 (bif (decide (v5≤v9)) then
 some false
 else
 zbG fuel x1 (g1+1))
 else
 zbG fuel x1 (g1+1)))
 else
 some (decide ((x1.length:Int)≤24)))
def zeC (fuel:Nat) (x1:(List Int)):Option Bool :=
 zbG fuel x1 0
mutual
def zeO (fuel:Nat) (x1:Form) (x2:Int) (o1:Int):Option (Bool × Int) :=
 match fuel with
 | 0=>none
 | fuel+1 =>
 (bif (decide ((w64 (o1-1)) < 0)) then
 some (false,(w64 (o1-1)))
 else
 (bif (decide (40 < x2)) then
 some (false,(w64 (o1-1)))
 else
 (bif (decide (x1.kind=1)) then
 (zea fuel x1.name).bind fun v4 =>
 (bif v4 then
 (bif (decide (x1.n=0)) then
 (zeC fuel x1.scopes).bind fun v7 =>
 (bif v7 then
 some ((decide ((x1.kids.length:Int)=0)),(w64 (o1-1)))
 else
 some (false,(w64 (o1-1))))
 else
 some (false,(w64 (o1-1))))
 else
 some (false,(w64 (o1-1))))
 else
 (bif (decide (x1.kind=2)) then
 (bif (decide (x1.name=(⟨#[]⟩:ByteArray))) then
 (zdB fuel x1.n 0 999).bind fun v11 =>
 (bif v11 then
 (bif (decide ((x1.scopes.length:Int)=0)) then
 some ((decide ((x1.kids.length:Int)=0)),(w64 (o1-1)))
 else
 some (false,(w64 (o1-1))))
 else
 some (false,(w64 (o1-1))))
 else
 some (false,(w64 (o1-1))))
 else
 (bif (decide (x1.kind=3)) then
 (bif (decide (x1.name≠(⟨#[]⟩:ByteArray))) then
 some (false,(w64 (o1-1)))
 else
 (bif (decide (x1.n≠0)) then
 some (false,(w64 (o1-1)))
 else
 (bif (decide (0 < (x1.scopes.length:Int))) then
 some (false,(w64 (o1-1)))
 else
 zcK fuel x1 x2 0 (w64 (o1-1)))))
 else
 some (false,(w64 (o1-1))))))))
def zcK (fuel:Nat) (x1:Form) (x2:Int) (g19:Int) (g20:Int):Option (Bool × Int) :=
 match fuel with
 | 0=>none
 | fuel+1 =>
 (bif (decide (g19 < (x1.kids.length:Int))) then
 (idx x1.kids g19).bind fun v24 =>
 (zeO fuel v24 (w64 (x2+1)) g20).bind fun v25 =>
 (bif (!v25.1) then
 some (false,v25.2)
 else
 zcK fuel x1 x2 (g19+1) v25.2)
 else
 some (true,g20))
end
def zbR (fuel:Nat) (x1:Form):Option Bool :=
 (zeO fuel x1 1 400).bind fun v1 =>
 some v1.1
def zdC (fuel:Nat) (x1:Form):Option Bool :=
 (bif (decide (x1.kind=1)) then
 (zbR fuel x1).bind fun v2 =>
 some v2
 else
 some false)
def zbJ (fuel:Nat) (x1:(List Int)) (x2:(List Int)) (g2:Int):Option Bool :=
 match fuel with
 | 0=>none
 | fuel+1 =>
 (bif (decide (g2 < (x1.length:Int))) then
 (idx x1 g2).bind fun v6 =>
 (idx x2 g2).bind fun v7 =>
 (bif (decide (v6≠v7)) then
 some false
 else
 zbJ fuel x1 x2 (g2+1))
 else
 some true)
def zdj (fuel:Nat) (x1:(List Int)) (x2:(List Int)):Option Bool :=
 (bif (decide ((x1.length:Int)≠(x2.length:Int))) then
 some false
 else
 zbJ fuel x1 x2 0)
mutual
def zaq (fuel:Nat) (x1:Form) (x2:Form):Option Bool :=
 match fuel with
 | 0=>none
 | fuel+1 =>
 (bif (decide (x1.kind=x2.kind)) then
 (bif (decide (x1.name=x2.name)) then
 (bif (decide (x1.n=x2.n)) then
 (zdj fuel x1.scopes x2.scopes).bind fun v4 =>
 (bif v4 then
 (za0 fuel x1.kids x2.kids).bind fun v6 =>
 some v6
 else
 some false)
 else
 some false)
 else
 some false)
 else
 some false)
def za0 (fuel:Nat) (x1:(List Form)) (x2:(List Form)):Option Bool :=
 match fuel with
 | 0=>none
 | fuel+1 =>
 (bif (decide ((x1.length:Int)≠(x2.length:Int))) then
 some false
 else
 zag fuel x1 x2 0)
def zag (fuel:Nat) (x1:(List Form)) (x2:(List Form)) (g2:Int):Option Bool :=
 match fuel with
 | 0=>none
 | fuel+1 =>
 (bif (decide (g2 < (x1.length:Int))) then
 (idx x1 g2).bind fun v6 =>
 (idx x2 g2).bind fun v7 =>
 (zaq fuel v6 v7).bind fun v8 =>
 (bif (!v8) then
 some false
 else
 zag fuel x1 x2 (g2+1))
 else
 some true)
end
mutual
def zeH (fuel:Nat) (x1:Hit):Option Bool :=
 match fuel with
 | 0=>none
 | fuel+1 =>
 (zdC fuel x1.name).bind fun v1 =>
 (bif (!v1) then
 some false
 else
 (bif (decide (x1.name.name=(⟨#[46,46,46]⟩:ByteArray))) then
 some false
 else
 (bif (decide (x1.name.name=(⟨#[95]⟩:ByteArray))) then
 some false
 else
 (zdB fuel x1.depth 0 3).bind fun v5 =>
 (bif (!v5) then
 some false
 else
 (bif (decide (x1.depth=0)) then
 (zbR fuel x1.one).bind fun v8 =>
 (bif v8 then
 some (decide ((x1.many.length:Int)=0))
 else
 some false)
 else
 (zaq fuel x1.one (Form.mk 0 (⟨#[]⟩:ByteArray) 0 ([]:List Int) ([]:List Form))).bind fun v10 =>
 (bif v10 then
 (bif (decide ((x1.many.length:Int)≤400)) then
 (zaQ fuel x1.many x1).bind fun v13 =>
 some (!v13)
 else
 some false)
 else
 some false))))))
def zep (fuel:Nat) (x1:Hit) (o1:Hit):Option Bool :=
 match fuel with
 | 0=>none
 | fuel+1 =>
 (zaq fuel x1.name o1.name).bind fun v1 =>
 (bif (!v1) then
 some true
 else
 (bif (decide (x1.depth≠(w64 (o1.depth-1)))) then
 some true
 else
 (zeH fuel x1).bind fun v4 =>
 some (!v4)))
def zaQ (fuel:Nat) (x1:(List Hit)) (o1:Hit):Option Bool :=
 match fuel with
 | 0=>none
 | fuel+1 =>
 (zbg fuel x1 o1).bind fun v1 =>
 some (decide (0≤v1))
def zbg (fuel:Nat) (x1:(List Hit)) (o1:Hit):Option Int :=
 match fuel with
 | 0=>none
 | fuel+1 =>
 zao fuel x1 o1 0
def zao (fuel:Nat) (x1:(List Hit)) (o1:Hit) (g1:Int):Option Int :=
 match fuel with
 | 0=>none
 | fuel+1 =>
 (bif (decide (g1 < (x1.length:Int))) then
 (idx x1 g1).bind fun v5 =>
 (zep fuel v5 o1).bind fun v6 =>
 (bif v6 then
 some g1
 else
 zao fuel x1 o1 (g1+1))
 else
 some (-1))
end
def zeq (fuel:Nat) (x1:Hit) (o1:Form):Option Bool :=
 (zaq fuel x1.name o1).bind fun v1 =>
 some v1
def zX (fuel:Nat) (x1:(List Hit)) (o1:Form) (g1:Int):Option Int :=
 match fuel with
 | 0=>none
 | fuel+1 =>
 (bif (decide (g1 < (x1.length:Int))) then
 (idx x1 g1).bind fun v5 =>
 (zeq fuel v5 o1).bind fun v6 =>
 (bif v6 then
 some g1
 else
 zX fuel x1 o1 (g1+1))
 else
 some (-1))
def zbh (fuel:Nat) (x1:(List Hit)) (o1:Form):Option Int :=
 zX fuel x1 o1 0
def zfP (fuel:Nat) (x1:(List Hit)) (x2:Form):Option Int :=
 (zbh fuel x1 x2).bind fun v1 =>
 some v1
def zbL (fuel:Nat) (x1:(List Hit)) (g1:Int):Option Bool :=
 match fuel with
 | 0=>none
 | fuel+1 =>
 (bif (decide (g1 < (x1.length:Int))) then
 (idx x1 g1).bind fun v5 =>
 (zeH fuel v5).bind fun v6 =>
 (bif (!v6) then
 some false
 else
 (sub x1 0 g1).bind fun v8 =>
 (zfP fuel v8 v5.name).bind fun v9 =>
 (bif (decide (0≤v9)) then
 some false
 else
 zbL fuel x1 (g1+1)))
 else
 some (decide ((x1.length:Int)≤20)))
def zfi (fuel:Nat) (x1:(List Hit)):Option Bool :=
 zbL fuel x1 0
def zb0 (fuel:Nat) (x1:Form) (x2:ByteArray):Option Bool :=
 (bif (decide (x1.kind=1)) then
 some (decide (x1.name=x2))
 else
 some false)
def zdW (fuel:Nat) (x1:Form):Option Bool :=
 (zb0 fuel x1 (⟨#[46,46,46]⟩:ByteArray)).bind fun v1 =>
 some v1
def zR (fuel:Nat) (x1:(List Form)) (g1:Int):Option Int :=
 match fuel with
 | 0=>none
 | fuel+1 =>
 (bif (decide (g1 < (x1.length:Int))) then
 (idx x1 g1).bind fun v5 =>
 (zdW fuel v5).bind fun v6 =>
 (bif v6 then
 some g1
 else
 zR fuel x1 (g1+1))
 else
 some (-1))
def zaZ (fuel:Nat) (x1:(List Form)):Option Int :=
 zR fuel x1 0
def zeP (fuel:Nat) (x1:(List Form)):Option Int :=
 (zaZ fuel x1).bind fun v1 =>
 some v1
mutual
def zdD (fuel:Nat) (x1:Form) (x2:Bool):Option Bool :=
 match fuel with
 | 0=>none
 | fuel+1 =>
 zbQ fuel x1 x2 0
def zbQ (fuel:Nat) (x1:Form) (x2:Bool) (g1:Int):Option Bool :=
 match fuel with
 | 0=>none
 | fuel+1 =>
 (bif (decide (g1 < (x1.kids.length:Int))) then
 (idx x1.kids g1).bind fun v5 =>
 (zb0 fuel v5 (⟨#[46,46,46]⟩:ByteArray)).bind fun v6 =>
 (bif v6 then
 (bif (decide (g1=0)) then
 some false
 else
 (idx x1.kids (w64 (g1-1))).bind fun v9 =>
 (zb0 fuel v9 (⟨#[46,46,46]⟩:ByteArray)).bind fun v10 =>
 (bif v10 then
 some false
 else
 (bif x2 then
 (sub x1.kids 0 g1).bind fun v13 =>
 (zeP fuel v13).bind fun v14 =>
 (bif (decide (0≤v14)) then
 some false
 else
 zbQ fuel x1 x2 (g1+1))
 else
 zbQ fuel x1 x2 (g1+1))))
 else
 (zdD fuel v5 x2).bind fun v16 =>
 (bif (!v16) then
 some false
 else
 zbQ fuel x1 x2 (g1+1)))
 else
 some true)
end
def zfg (fuel:Nat) (x1:Form) (o1:Form):Option Bool :=
 (zaq fuel x1 o1).bind fun v1 =>
 some v1
def zab (fuel:Nat) (x1:(List Form)) (o1:Form) (g1:Int):Option Int :=
 match fuel with
 | 0=>none
 | fuel+1 =>
 (bif (decide (g1 < (x1.length:Int))) then
 (idx x1 g1).bind fun v5 =>
 (zfg fuel v5 o1).bind fun v6 =>
 (bif v6 then
 some g1
 else
 zab fuel x1 o1 (g1+1))
 else
 some (-1))
def zbD (fuel:Nat) (x1:(List Form)) (o1:Form):Option Int :=
 zab fuel x1 o1 0
def zfp (fuel:Nat) (x1:(List Form)) (x2:(List Int)) (x3:Form):Option Int :=
 (bif (decide (x3.kind≠1)) then
 some (-1)
 else
 (zbD fuel x1 x3).bind fun v2 =>
 (bif (decide (v2 < 0)) then
 some (-1)
 else
 (idx x2 v2).bind fun v4 =>
 some v4))
def zg4 (fuel:Nat) (x1:Form) (o1:Bool) (o2:(List Form)) (o3:(List Int)) (o4:Int):Option Bool :=
 (bif o1 then
 some true
 else
 (zfp fuel o2 o3 x1).bind fun v2 =>
 some (decide (o4 < v2)))
mutual
def zba (fuel:Nat) (x1:Form) (o1:Bool) (o2:(List Form)) (o3:(List Int)) (o4:Int):Option Bool :=
 match fuel with
 | 0=>none
 | fuel+1 =>
 (zg4 fuel x1 o1 o2 o3 o4).bind fun v1 =>
 zaw fuel x1 o2 o3 o4 0 v1
def zaw (fuel:Nat) (x1:Form) (o2:(List Form)) (o3:(List Int)) (o4:Int) (g2:Int) (g3:Bool):Option Bool :=
 match fuel with
 | 0=>none
 | fuel+1 =>
 (bif (decide (g2 < (x1.kids.length:Int))) then
 (idx x1.kids g2).bind fun v7 =>
 (zba fuel v7 g3 o2 o3 o4).bind fun v8 =>
 zaw fuel x1 o2 o3 o4 (g2+1) v8
 else
 some g3)
end
mutual
def zc1 (fuel:Nat) (x1:Form) (x2:(List Form)) (x3:(List Int)) (x4:Int):Option Bool :=
 match fuel with
 | 0=>none
 | fuel+1 =>
 (zfp fuel x2 x3 x1).bind fun v1 =>
 (bif (decide (x4 < v1)) then
 some false
 else
 za7 fuel x1 x2 x3 x4 0)
def za7 (fuel:Nat) (x1:Form) (x2:(List Form)) (x3:(List Int)) (x4:Int) (g3:Int):Option Bool :=
 match fuel with
 | 0=>none
 | fuel+1 =>
 (bif (decide (g3 < (x1.kids.length:Int))) then
 (idx x1.kids g3).bind fun v7 =>
 (zb0 fuel v7 (⟨#[46,46,46]⟩:ByteArray)).bind fun v8 =>
 (bif v8 then
 za7 fuel x1 x2 x3 x4 (g3+1)
 else
 (bif (decide ((g3+1) < (x1.kids.length:Int))) then
 (idx x1.kids (g3+1)).bind fun v11 =>
 (zb0 fuel v11 (⟨#[46,46,46]⟩:ByteArray)).bind fun v12 =>
 (bif v12 then
 (zba fuel v7 false x2 x3 x4).bind fun v14 =>
 (bif (!v14) then
 some false
 else
 (zc1 fuel v7 x2 x3 (w64 (x4+1))).bind fun v16 =>
 (bif (!v16) then
 some false
 else
 za7 fuel x1 x2 x3 x4 (g3+1)))
 else
 (zc1 fuel v7 x2 x3 x4).bind fun v18 =>
 (bif (!v18) then
 some false
 else
 za7 fuel x1 x2 x3 x4 (g3+1)))
 else
 (zc1 fuel v7 x2 x3 x4).bind fun v20 =>
 (bif (!v20) then
 some false
 else
 za7 fuel x1 x2 x3 x4 (g3+1))))
 else
 some true)
end
def zdP (fuel:Nat) (x1:Form) (x2:(List Form)) (x3:(List Int)):Option Bool :=
 (zbR fuel x1).bind fun v1 =>
 (bif v1 then
 (zb0 fuel x1 (⟨#[46,46,46]⟩:ByteArray)).bind fun v3 =>
 (bif (!v3) then
 (zdD fuel x1 false).bind fun v5 =>
 (bif v5 then
 (zc1 fuel x1 x2 x3 0).bind fun v7 =>
 some v7
 else
 some false)
 else
 some false)
 else
 some false)
def zdx (fuel:Nat) (x1:Form) (x2:(List Hit)):Option Bool :=
 (zgk fuel x2).bind fun v1 =>
 (zfi fuel x2).bind fun v2 =>
 (bif v2 then
 (zdP fuel x1 v1.1 v1.2).bind fun v4 =>
 some v4
 else
 some false)
def zdI (fuel:Nat) (x1:(List Form)) (x2:Form) (g1:Int):Option Bool :=
 match fuel with
 | 0=>none
 | fuel+1 =>
 (bif (decide (g1 < (x1.length:Int))) then
 (idx x1 g1).bind fun v5 =>
 (zaP fuel v5 x2).bind fun v6 =>
 (bif v6 then
 some true
 else
 zdI fuel x1 x2 (g1+1))
 else
 some false)
def zfF (fuel:Nat) (x1:(List Form)) (x2:Form):Option Bool :=
 zdI fuel x1 x2 0
def zbq (fuel:Nat) (x1:(List Form)) (g1:Int):Option Bool :=
 match fuel with
 | 0=>none
 | fuel+1 =>
 (bif (decide (g1 < (x1.length:Int))) then
 (bif (decide (g1 < 10)) then
 (idx x1 g1).bind fun v5 =>
 (zhY fuel v5).bind fun v6 =>
 (bif (!v6) then
 some false
 else
 (idx x1 g1).bind fun v8 =>
 (bif (decide (v8.name=(⟨#[46,46,46]⟩:ByteArray))) then
 some false
 else
 (idx x1 g1).bind fun v10 =>
 (bif (decide (v10.name=(⟨#[95]⟩:ByteArray))) then
 some false
 else
 (sub x1 0 g1).bind fun v12 =>
 (idx x1 g1).bind fun v13 =>
 (zfF fuel v12 v13).bind fun v14 =>
 (bif v14 then
 some false
 else
 zbq fuel x1 (w64 (g1+1))))))
 else
 some (decide ((x1.length:Int) < 10)))
 else
 some (decide ((x1.length:Int) < 10)))
def zdO (fuel:Nat) (x1:(List Form)):Option Bool :=
 zbq fuel x1 0
mutual
def zem (fuel:Nat) (x1:Form):Option Bool :=
 match fuel with
 | 0=>none
 | fuel+1 =>
 (za4 fuel x1).bind fun v1 =>
 (bif v1 then
 some false
 else
 zbV fuel x1 0 0)
def zbV (fuel:Nat) (x1:Form) (g3:Int) (g4:Int):Option Bool :=
 match fuel with
 | 0=>none
 | fuel+1 =>
 (bif (decide (g4 < (x1.kids.length:Int))) then
 (idx x1.kids g4).bind fun v8 =>
 (za4 fuel v8).bind fun v9 =>
 (bif v9 then
 (bif (decide (g4=0)) then
 some false
 else
 (idx x1.kids (w64 (g4-1))).bind fun v12 =>
 (za4 fuel v12).bind fun v13 =>
 (bif v13 then
 some false
 else
 zbV fuel x1 (w64 (g3+1)) (g4+1)))
 else
 (idx x1.kids g4).bind fun v15 =>
 (zem fuel v15).bind fun v16 =>
 (bif (!v16) then
 some false
 else
 zbV fuel x1 g3 (g4+1)))
 else
 some (decide (g3≤1)))
end
def zgL (fuel:Nat) (x1:Form) (x2:(List Form)):Option Bool :=
 (bif (decide (x1.kind=1)) then
 (bif (decide (x1.name≠(⟨#[46,46,46]⟩:ByteArray))) then
 (bif (decide (x1.name≠(⟨#[95]⟩:ByteArray))) then
 (zfF fuel x2 x1).bind fun v4 =>
 some (!v4)
 else
 some false)
 else
 some false)
 else
 some false)
mutual
def zc0 (fuel:Nat) (x1:(List Form)) (x2:Form) (x3:(List Form)):Option (List Form) :=
 match fuel with
 | 0=>none
 | fuel+1 =>
 (zgL fuel x2 x3).bind fun v1 =>
 (bif v1 then
 chk (decide ((x1.length+[x2].length)*80≤140737488355328)) <|
 zaM fuel x2 x3 (x1++[x2]) 0
 else
 zaM fuel x2 x3 x1 0)
def zaM (fuel:Nat) (x2:Form) (x3:(List Form)) (g4:(List Form)) (g5:Int):Option (List Form) :=
 match fuel with
 | 0=>none
 | fuel+1 =>
 (bif (decide (g5 < (x2.kids.length:Int))) then
 (idx x2.kids g5).bind fun v9 =>
 (zc0 fuel g4 v9 x3).bind fun v10 =>
 zaM fuel x2 x3 v10 (g5+1)
 else
 some g4)
end
mutual
def za8 (fuel:Nat) (x1:(List Int)) (x2:Form) (x3:(List Form)) (x4:Int):Option (List Int) :=
 match fuel with
 | 0=>none
 | fuel+1 =>
 (zgL fuel x2 x3).bind fun v1 =>
 (bif v1 then
 chk (decide ((x1.length+[x4].length)*8≤140737488355328)) <|
 zah fuel x2 x3 x4 (x1++[x4]) 0
 else
 zah fuel x2 x3 x4 x1 0)
def zah (fuel:Nat) (x2:Form) (x3:(List Form)) (x4:Int) (g4:(List Int)) (g5:Int):Option (List Int) :=
 match fuel with
 | 0=>none
 | fuel+1 =>
 (bif (decide (g5 < (x2.kids.length:Int))) then
 (bif (decide ((g5+1) < (x2.kids.length:Int))) then
 (idx x2.kids (g5+1)).bind fun v10 =>
 (za4 fuel v10).bind fun v11 =>
 (bif v11 then
 (idx x2.kids g5).bind fun v13 =>
 (za8 fuel g4 v13 x3 (w64 (x4+1))).bind fun v14 =>
 zah fuel x2 x3 x4 v14 (g5+1)
 else
 (idx x2.kids g5).bind fun v15 =>
 (za8 fuel g4 v15 x3 x4).bind fun v16 =>
 zah fuel x2 x3 x4 v16 (g5+1))
 else
 (idx x2.kids g5).bind fun v17 =>
 (za8 fuel g4 v17 x3 x4).bind fun v18 =>
 zah fuel x2 x3 x4 v18 (g5+1))
 else
 some g4)
end
mutual
def zdG (fuel:Nat) (g9:(List Form)) (v17:(List Int)) (g18:Int):Option Bool :=
 match fuel with
 | 0=>none
 | fuel+1 =>
 (bif (decide (g18 < (v17.length:Int))) then
 (idx v17 g18).bind fun v22 =>
 (bif (decide (3 < v22)) then
 some false
 else
 zdG fuel g9 v17 (g18+1))
 else
 some (decide ((g9.length:Int)≤20)))
def zdH (fuel:Nat) (x1:Form) (x2:(List Form)) (g8:Int) (g9:(List Form)):Option Bool :=
 match fuel with
 | 0=>none
 | fuel+1 =>
 (bif (decide (g8 < (g9.length:Int))) then
 (sub g9 0 g8).bind fun v13 =>
 (idx g9 g8).bind fun v14 =>
 (zfF fuel v13 v14).bind fun v15 =>
 (bif v15 then
 some false
 else
 zdH fuel x1 x2 (g8+1) g9)
 else
 (za8 fuel ([]:List Int) x1 x2 0).bind fun v17 =>
 zdG fuel g9 v17 0)
end
def zhX (fuel:Nat) (x1:Form) (x2:(List Form)):Option Bool :=
 (zbn fuel x1).bind fun v1 =>
 (bif (!v1) then
 some false
 else
 (zdO fuel x2).bind fun v3 =>
 (bif (!v3) then
 some false
 else
 (zem fuel x1).bind fun v5 =>
 (bif (!v5) then
 some false
 else
 (zc0 fuel ([]:List Form) x1 x2).bind fun v7 =>
 zdH fuel x1 x2 0 v7)))
def zbT (fuel:Nat) (v1:(List Form)) (v2:(List Int)) (g3:(List Hit)) (g4:Int):Option (List Hit) :=
 match fuel with
 | 0=>none
 | fuel+1 =>
 (bif (decide (g4 < (v1.length:Int))) then
 (idx v1 g4).bind fun v8 =>
 (idx v2 g4).bind fun v9 =>
 (bif (decide (v9=0)) then
 (idx v1 g4).bind fun v11 =>
 chk (decide ((g3.length+[(Hit.mk v8 v9 v11 ([]:List Hit))].length)*192≤140737488355328)) <|
 zbT fuel v1 v2 (g3++[(Hit.mk v8 v9 v11 ([]:List Hit))]) (g4+1)
 else
 chk (decide ((g3.length+[(Hit.mk v8 v9 (Form.mk 0 (⟨#[]⟩:ByteArray) 0 ([]:List Int) ([]:List Form)) ([]:List Hit))].length)*192≤140737488355328)) <|
 zbT fuel v1 v2 (g3++[(Hit.mk v8 v9 (Form.mk 0 (⟨#[]⟩:ByteArray) 0 ([]:List Int) ([]:List Form)) ([]:List Hit))]) (g4+1))
 else
 some g3)
def zf7 (fuel:Nat) (x1:Form) (x2:(List Form)):Option (List Hit) :=
 (zc0 fuel ([]:List Form) x1 x2).bind fun v1 =>
 (za8 fuel ([]:List Int) x1 x2 0).bind fun v2 =>
 zbT fuel v1 v2 ([]:List Hit) 0
def zdz (fuel:Nat) (x1:Rule) (x2:(List Form)):Option Bool :=
 (zhX fuel x1.pattern x2).bind fun v1 =>
 (bif v1 then
 (bif (decide (x1.pattern.kind=3)) then
 (bif (decide (0 < (x1.pattern.kids.length:Int))) then
 (zbn fuel x1.template).bind fun v5 =>
 (bif v5 then
 (zf7 fuel x1.pattern x2).bind fun v7 =>
 (zel fuel x1.template v7).bind fun v8 =>
 some v8
 else
 some false)
 else
 some false)
 else
 some false)
 else
 some false)
def zhE (fuel:Nat) (x1:Rule) (x2:(List Form)):Option Bool :=
 (zdz fuel x1 x2).bind fun v1 =>
 some v1
def zg5 (fuel:Nat) (x1:Form) (o1:Form):Option Bool :=
 (zaq fuel x1 o1).bind fun v1 =>
 some v1
def zap (fuel:Nat) (x1:(List Form)) (o1:Form) (g1:Int):Option Int :=
 match fuel with
 | 0=>none
 | fuel+1 =>
 (bif (decide (g1 < (x1.length:Int))) then
 (idx x1 g1).bind fun v5 =>
 (zg5 fuel v5 o1).bind fun v6 =>
 (bif v6 then
 some g1
 else
 zap fuel x1 o1 (g1+1))
 else
 some (-1))
def zbZ (fuel:Nat) (x1:(List Form)) (o1:Form):Option Int :=
 zap fuel x1 o1 0
def zbF (fuel:Nat) (x1:(List Form)) (o1:Form):Option Bool :=
 (zbZ fuel x1 o1).bind fun v1 =>
 some (decide (0≤v1))
def zfO (fuel:Nat) (x1:(List Form)) (x2:Form):Option Bool :=
 (zbF fuel x1 x2).bind fun v1 =>
 some v1
def zby (fuel:Nat) (x1:(List Form)) (g1:Int):Option Bool :=
 match fuel with
 | 0=>none
 | fuel+1 =>
 (bif (decide (g1 < (x1.length:Int))) then
 (idx x1 g1).bind fun v5 =>
 (zdC fuel v5).bind fun v6 =>
 (bif (!v6) then
 some false
 else
 (bif (decide (v5.name=(⟨#[46,46,46]⟩:ByteArray))) then
 some false
 else
 (bif (decide (v5.name=(⟨#[95]⟩:ByteArray))) then
 some false
 else
 (sub x1 0 g1).bind fun v10 =>
 (zfO fuel v10 v5).bind fun v11 =>
 (bif v11 then
 some false
 else
 zby fuel x1 (g1+1)))))
 else
 some (decide ((x1.length:Int)≤9)))
def zdQ (fuel:Nat) (x1:(List Form)):Option Bool :=
 zby fuel x1 0
def zhw (fuel:Nat) (x1:Form) (x2:(List Form)):Option Bool :=
 (bif (decide (x1.kind=1)) then
 (bif (decide (x1.name≠(⟨#[46,46,46]⟩:ByteArray))) then
 (bif (decide (x1.name≠(⟨#[95]⟩:ByteArray))) then
 (zfO fuel x2 x1).bind fun v4 =>
 some (!v4)
 else
 some false)
 else
 some false)
 else
 some false)
mutual
def zbe (fuel:Nat) (x1:Form) (x2:(List Form)) (x3:Int) (o1:(List Form)) (o2:(List Int)):Option ((List Form) × (List Int)) :=
 match fuel with
 | 0=>none
 | fuel+1 =>
 (zhw fuel x1 x2).bind fun v1 =>
 (bif v1 then
 chk (decide ((o1.length+[(Form.mk 0 (⟨#[]⟩:ByteArray) 0 ([]:List Int) ([]:List Form))].length)*80≤140737488355328)) <|
 (idx (o1++[(Form.mk 0 (⟨#[]⟩:ByteArray) 0 ([]:List Int) ([]:List Form))]) (o1.length:Int)).bind fun v4 =>
 chk (decide ((o2.length+[x3].length)*8≤140737488355328)) <|
 zV fuel x1 x2 x3 0 ((o1++[(Form.mk 0 (⟨#[]⟩:ByteArray) 0 ([]:List Int) ([]:List Form))]).set (o1.length:Int).toNat x1) (o2++[x3])
 else
 zV fuel x1 x2 x3 0 o1 o2)
def zV (fuel:Nat) (x1:Form) (x2:(List Form)) (x3:Int) (g6:Int) (g7:(List Form)) (g8:(List Int)):Option ((List Form) × (List Int)) :=
 match fuel with
 | 0=>none
 | fuel+1 =>
 (bif (decide (g6 < (x1.kids.length:Int))) then
 (idx x1.kids g6).bind fun v12 =>
 (bif (decide ((g6+1) < (x1.kids.length:Int))) then
 (idx x1.kids (g6+1)).bind fun v14 =>
 (zb0 fuel v14 (⟨#[46,46,46]⟩:ByteArray)).bind fun v15 =>
 (bif v15 then
 (zbe fuel v12 x2 (w64 (x3+1)) g7 g8).bind fun v17 =>
 zV fuel x1 x2 x3 (g6+1) v17.1 v17.2
 else
 (zbe fuel v12 x2 x3 g7 g8).bind fun v18 =>
 zV fuel x1 x2 x3 (g6+1) v18.1 v18.2)
 else
 (zbe fuel v12 x2 x3 g7 g8).bind fun v19 =>
 zV fuel x1 x2 x3 (g6+1) v19.1 v19.2)
 else
 some (g7,g8))
end
def zeN (fuel:Nat) (x1:Form) (x2:(List Form)):Option ((List Form) × (List Int)) :=
 (zbe fuel x1 x2 0 ([]:List Form) ([]:List Int)).bind fun v1 =>
 some (v1.1,v1.2)
def zaF (fuel:Nat) (v9:(List Form) × (List Int)) (g10:Int) (g11:(List Form)):Option Bool :=
 match fuel with
 | 0=>none
 | fuel+1 =>
 (bif (decide (g10 < (v9.1.length:Int))) then
 (idx g11 g10).bind fun v14 =>
 (sub g11 0 g10).bind fun v15 =>
 (zfO fuel v15 v14).bind fun v16 =>
 (bif v16 then
 some false
 else
 (idx v9.2 g10).bind fun v18 =>
 (bif (decide (3 < v18)) then
 some false
 else
 zaF fuel v9 (w64 (g10+1)) g11))
 else
 some (decide ((g11.length:Int)≤20)))
def zdX (fuel:Nat) (x1:Form) (x2:(List Form)):Option Bool :=
 (zbR fuel x1).bind fun v1 =>
 (bif (!v1) then
 some false
 else
 (zdQ fuel x2).bind fun v3 =>
 (bif (!v3) then
 some false
 else
 (zb0 fuel x1 (⟨#[46,46,46]⟩:ByteArray)).bind fun v5 =>
 (bif v5 then
 some false
 else
 (zdD fuel x1 true).bind fun v7 =>
 (bif (!v7) then
 some false
 else
 (zeN fuel x1 x2).bind fun v9 =>
 zaF fuel v9 0 v9.1))))
def zfh (fuel:Nat) (x1:Rule) (x2:(List Form)):Option Bool :=
 (zdX fuel x1.pattern x2).bind fun v1 =>
 (bif (!v1) then
 some false
 else
 (bif (decide (x1.pattern.kind≠3)) then
 some false
 else
 (bif (decide ((x1.pattern.kids.length:Int)=0)) then
 some false
 else
 (zeN fuel x1.pattern x2).bind fun v5 =>
 (zdP fuel x1.template v5.1 v5.2).bind fun v6 =>
 some v6)))
def zf9 (fuel:Nat) (x1:(List Int)):Option zb7 :=
 (bif (decide (2000 < (x1.length:Int))) then
 (sub x1 0 2000).bind fun v3 =>
 some (zb7.mk v3 0)
 else
 some (zb7.mk x1 0))
end Go.Abs
