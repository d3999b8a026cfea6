/- A part of the proof: what the functions that the law calls answer, as pure values. -/
import Derived.Test.YtjjjnhpghhamkaaGreatKa18b558014bb
set_option linter.unusedSimpArgs false
set_option linter.unusedVariables false
set_option maxHeartbeats 4000000
namespace Go.Abs
def zfK (fuel:Nat) (x1:Int) (x2:Bool):Option Bool :=
 (bif (decide (97≤x1)) then
 (bif (decide (x1≤122)) then
 some true
 else
 (bif (decide (x1=42)) then
 some true
 else
 (bif (decide (x1=63)) then
 some true
 else
 (bif (decide (x1=61)) then
 some true
 else
 (bif (decide (x1=43)) then
 some true
 else
 (bif (decide (x1=60)) then
 some true
 else
 (bif (!x2) then
 (bif (decide (48≤x1)) then
 (bif (decide (x1≤57)) then
 some true
 else
 some (decide (x1=45)))
 else
 some (decide (x1=45)))
 else
 some false)))))))
 else
 (bif (decide (x1=42)) then
 some true
 else
 (bif (decide (x1=63)) then
 some true
 else
 (bif (decide (x1=61)) then
 some true
 else
 (bif (decide (x1=43)) then
 some true
 else
 (bif (decide (x1=60)) then
 some true
 else
 (bif (!x2) then
 (bif (decide (48≤x1)) then
 (bif (decide (x1≤57)) then
 some true
 else
 some (decide (x1=45)))
 else
 some (decide (x1=45)))
 else
 some false)))))))
def zbJ (fuel:Nat) (x1:ByteArray) (g3:Int):Option Bool :=
 match fuel with
 | 0=>none
 | fuel+1 =>
 (bif (decide (g3 < (x1.size:Int))) then
 (bif (decide (g3≤12)) then
 (bidx x1 g3).bind fun v7 =>
 (zfK fuel v7 (decide (g3=0))).bind fun v8 =>
 (bif (!v8) then
 some false
 else
 zbJ fuel x1 (w64 (g3+1)))
 else
 (bif (decide (1≤(x1.size:Int))) then
 some (decide ((x1.size:Int)≤12))
 else
 some false))
 else
 (bif (decide (1≤(x1.size:Int))) then
 some (decide ((x1.size:Int)≤12))
 else
 some false))
def zd8 (fuel:Nat) (x1:ByteArray):Option Bool :=
 (bif (decide (x1=(⟨#[46,46,46]⟩:ByteArray))) then
 some true
 else
 (bif (decide (x1=(⟨#[95]⟩:ByteArray))) then
 some true
 else
 zbJ fuel x1 0))
def zbD (fuel:Nat) (x1:(List Int)) (g1:Int):Option Bool :=
 match fuel with
 | 0=>none
 | fuel+1 =>
 (bif (decide (g1 < (x1.length:Int))) then
 (bif (decide (g1≤24)) then
 (idx x1 g1).bind fun v5 =>
 (bif (decide (v5 < 1)) then
 some false
 else
 (idx x1 g1).bind fun v7 =>
 (bif (decide (99 < v7)) then
 some false
 else
 (bif (decide (0 < g1)) then
 (idx x1 g1).bind fun v10 =>
 (idx x1 (w64 (g1-1))).bind fun v11 =>
 (bif (decide (v10≤v11)) then
 some false
 else
 zbD fuel x1 (w64 (g1+1)))
 else
 zbD fuel x1 (w64 (g1+1)))))
 else
 some (decide ((x1.length:Int)≤24)))
 else
 some (decide ((x1.length:Int)≤24)))
def zeA (fuel:Nat) (x1:(List Int)):Option Bool :=
 zbD fuel x1 0
mutual
def zfL (fuel:Nat) (x1:Form) (x2:Int):Option Bool :=
 match fuel with
 | 0=>none
 | fuel+1 =>
 (bif (decide (x2=0)) then
 some false
 else
 (bif (decide (x1.kind=1)) then
 (zd8 fuel x1.name).bind fun v3 =>
 (bif v3 then
 (bif (decide (x1.n=0)) then
 (zeA fuel x1.scopes).bind fun v6 =>
 (bif v6 then
 some (decide ((x1.kids.length:Int)=0))
 else
 some false)
 else
 some false)
 else
 some false)
 else
 (bif (decide (x1.kind=2)) then
 (bif (decide (x1.name=(⟨#[]⟩:ByteArray))) then
 (bif (decide (0≤x1.n)) then
 (bif (decide (x1.n≤999)) then
 (bif (decide ((x1.scopes.length:Int)=0)) then
 some (decide ((x1.kids.length:Int)=0))
 else
 some false)
 else
 some false)
 else
 some false)
 else
 some false)
 else
 (bif (decide (x1.kind≠3)) then
 some false
 else
 (bif (decide (x1.name≠(⟨#[]⟩:ByteArray))) then
 some false
 else
 (bif (decide (x1.n≠0)) then
 some false
 else
 (bif (decide ((x1.scopes.length:Int)≠0)) then
 some false
 else
 zep fuel x1 x2 0)))))))
def zep (fuel:Nat) (x1:Form) (x2:Int) (g17:Int):Option Bool :=
 match fuel with
 | 0=>none
 | fuel+1 =>
 (bif (decide (g17 < (x1.kids.length:Int))) then
 (idx x1.kids g17).bind fun v21 =>
 (zfL fuel v21 (w64 (x2-1))).bind fun v22 =>
 (bif (!v22) then
 some false
 else
 zep fuel x1 x2 (g17+1))
 else
 some true)
end
mutual
def zdK (fuel:Nat) (x1:Form):Option Int :=
 match fuel with
 | 0=>none
 | fuel+1 =>
 zcm fuel x1 1 0
def zcm (fuel:Nat) (x1:Form) (g1:Int) (g2:Int):Option Int :=
 match fuel with
 | 0=>none
 | fuel+1 =>
 (bif (decide (g2 < (x1.kids.length:Int))) then
 (idx x1.kids g2).bind fun v6 =>
 (zdK fuel v6).bind fun v7 =>
 zcm fuel x1 (w64 (g1+v7)) (g2+1)
 else
 some g1)
end
def zbq (fuel:Nat) (x1:Form):Option Bool :=
 (zfL fuel x1 40).bind fun v1 =>
 (bif v1 then
 (zdK fuel x1).bind fun v3 =>
 some (decide (v3≤400))
 else
 some false)
def zh2 (fuel:Nat) (x1:Form):Option Bool :=
 (bif (decide (x1.kind=1)) then
 (zbq fuel x1).bind fun v2 =>
 some v2
 else
 some false)
def zdt (fuel:Nat) (x1:(List Int)) (x2:(List Int)) (g2:Int):Option Bool :=
 match fuel with
 | 0=>none
 | fuel+1 =>
 (bif (decide (g2 < (x1.length:Int))) then
 (idx x1 g2).bind fun v6 =>
 (idx x2 g2).bind fun v7 =>
 (bif (decide (v6≠v7)) then
 some false
 else
 zdt fuel x1 x2 (g2+1))
 else
 some true)
def zf1 (fuel:Nat) (x1:(List Int)) (x2:(List Int)):Option Bool :=
 (bif (decide ((x1.length:Int)≠(x2.length:Int))) then
 some false
 else
 zdt fuel x1 x2 0)
mutual
def zaT (fuel:Nat) (x1:Form) (x2:Form):Option Bool :=
 match fuel with
 | 0=>none
 | fuel+1 =>
 (bif (decide (x1.kind≠x2.kind)) then
 some false
 else
 (bif (decide (x1.name≠x2.name)) then
 some false
 else
 (bif (decide (x1.n≠x2.n)) then
 some false
 else
 (zf1 fuel x1.scopes x2.scopes).bind fun v4 =>
 (bif (!v4) then
 some false
 else
 (bif (decide ((x1.kids.length:Int)≠(x2.kids.length:Int))) then
 some false
 else
 zcs fuel x1 x2 0)))))
def zcs (fuel:Nat) (x1:Form) (x2:Form) (g7:Int):Option Bool :=
 match fuel with
 | 0=>none
 | fuel+1 =>
 (bif (decide (g7 < (x1.kids.length:Int))) then
 (idx x1.kids g7).bind fun v11 =>
 (idx x2.kids g7).bind fun v12 =>
 (zaT fuel v11 v12).bind fun v13 =>
 (bif (!v13) then
 some false
 else
 zcs fuel x1 x2 (g7+1))
 else
 some true)
end
def za7 (fuel:Nat) (x1:Form):Option Bool :=
 (bif (decide (x1.kind=1)) then
 some (decide (x1.name=(⟨#[46,46,46]⟩:ByteArray)))
 else
 some false)
def zcc (fuel:Nat) (x1:(List Hit)) (x2:Form) (g1:Int):Option Int :=
 match fuel with
 | 0=>none
 | fuel+1 =>
 (bif (decide (g1 < (x1.length:Int))) then
 (idx x1 g1).bind fun v5 =>
 (zaT fuel v5.name x2).bind fun v6 =>
 (bif v6 then
 some g1
 else
 zcc fuel x1 x2 (g1+1))
 else
 some (-1))
def zeN (fuel:Nat) (x1:(List Hit)) (x2:Form):Option Int :=
 zcc fuel x1 x2 0
def zfp (fuel:Nat) (x1:(List Hit)) (x2:Form):Option Int :=
 (bif (decide (x2.kind≠1)) then
 some (-1)
 else
 (zeN fuel x1 x2).bind fun v2 =>
 (bif (decide (v2 < 0)) then
 some (-1)
 else
 (idx x1 v2).bind fun v4 =>
 some v4.depth))
mutual
def zeM (fuel:Nat) (x1:(List Hit)) (x2:Form):Option Bool :=
 match fuel with
 | 0=>none
 | fuel+1 =>
 (zfp fuel x1 x2).bind fun v1 =>
 (bif (decide (0 < v1)) then
 some true
 else
 zcB fuel x1 x2 0)
def zcB (fuel:Nat) (x1:(List Hit)) (x2:Form) (g3:Int):Option Bool :=
 match fuel with
 | 0=>none
 | fuel+1 =>
 (bif (decide (g3 < (x2.kids.length:Int))) then
 (idx x2.kids g3).bind fun v7 =>
 (zeM fuel x1 v7).bind fun v8 =>
 (bif v8 then
 some true
 else
 zcB fuel x1 x2 (g3+1))
 else
 some false)
end
def zca (fuel:Nat) (x1:(List Hit)) (g1:(List Hit)) (g2:Int):Option (List Hit) :=
 match fuel with
 | 0=>none
 | fuel+1 =>
 (bif (decide (g2 < (x1.length:Int))) then
 (idx x1 g2).bind fun v6 =>
 (idx x1 g2).bind fun v7 =>
 (idx x1 g2).bind fun v8 =>
 (bif (decide (0 < v7.depth)) then
 chk (decide ((g1.length+[(Hit.mk v6.name (w64 (v7.depth-1)) v8.one ([]:List Hit))].length)*192≤140737488355328)) <|
 zca fuel x1 (g1++[(Hit.mk v6.name (w64 (v7.depth-1)) v8.one ([]:List Hit))]) (g2+1)
 else
 chk (decide ((g1.length+[(Hit.mk v6.name v7.depth v8.one ([]:List Hit))].length)*192≤140737488355328)) <|
 zca fuel x1 (g1++[(Hit.mk v6.name v7.depth v8.one ([]:List Hit))]) (g2+1))
 else
 some g1)
def zgV (fuel:Nat) (x1:(List Hit)):Option (List Hit) :=
 zca fuel x1 ([]:List Hit) 0
mutual
def zem (fuel:Nat) (x1:Form) (x2:(List Hit)):Option Bool :=
 match fuel with
 | 0=>none
 | fuel+1 =>
 (za7 fuel x1).bind fun v1 =>
 (bif v1 then
 some false
 else
 (zfp fuel x2 x1).bind fun v3 =>
 (bif (decide (0 < v3)) then
 some false
 else
 zbQ fuel x1 x2 0))
def zbQ (fuel:Nat) (x1:Form) (x2:(List Hit)) (g5:Int):Option Bool :=
 match fuel with
 | 0=>none
 | fuel+1 =>
 (bif (decide (g5 < (x1.kids.length:Int))) then
 (idx x1.kids g5).bind fun v9 =>
 (za7 fuel v9).bind fun v10 =>
 (bif v10 then
 (bif (decide (g5=0)) then
 some false
 else
 (idx x1.kids (w64 (g5-1))).bind fun v13 =>
 (za7 fuel v13).bind fun v14 =>
 (bif v14 then
 some false
 else
 zbQ fuel x1 x2 (g5+1)))
 else
 (bif (decide ((g5+1) < (x1.kids.length:Int))) then
 (idx x1.kids (g5+1)).bind fun v17 =>
 (za7 fuel v17).bind fun v18 =>
 (bif v18 then
 (idx x1.kids g5).bind fun v20 =>
 (zeM fuel x2 v20).bind fun v21 =>
 (bif (!v21) then
 some false
 else
 (idx x1.kids g5).bind fun v23 =>
 (zgV fuel x2).bind fun v24 =>
 (zem fuel v23 v24).bind fun v25 =>
 (bif (!v25) then
 some false
 else
 zbQ fuel x1 x2 (g5+1)))
 else
 (idx x1.kids g5).bind fun v27 =>
 (zem fuel v27 x2).bind fun v28 =>
 (bif (!v28) then
 some false
 else
 zbQ fuel x1 x2 (g5+1)))
 else
 (idx x1.kids g5).bind fun v30 =>
 (zem fuel v30 x2).bind fun v31 =>
 (bif (!v31) then
 some false
 else
 zbQ fuel x1 x2 (g5+1))))
 else
 some true)
end
def zcn (fuel:Nat) (x1:(List Hit)) (g1:(List Form)) (g2:(List Int)) (g3:Int):Option ((List Form) × (List Int)) :=
 match fuel with
 | 0=>none
 | fuel+1 =>
 (bif (decide (g3 < (x1.length:Int))) then
 (idx x1 g3).bind fun v7 =>
 chk (decide ((g1.length+[v7.name].length)*80≤140737488355328)) <|
 chk (decide ((g2.length+[v7.depth].length)*8≤140737488355328)) <|
 zcn fuel x1 (g1++[v7.name]) (g2++[v7.depth]) (g3+1)
 else
 some (g1,g2))
def zgn (fuel:Nat) (x1:(List Hit)):Option ((List Form) × (List Int)) :=
 zcn fuel x1 ([]:List Form) ([]:List Int) 0
def zeL (fuel:Nat) (x1:ByteArray) (x2:Int):Option Int :=
 some (Lib.indexByte x1.data.toList x2.toNat.toUInt8)
def zdC (fuel:Nat) (x1:Int) (x2:Int) (x3:Int):Option Bool :=
 (bif (decide (x2≤x1)) then
 some (decide (x1≤x3))
 else
 some false)
def z7 (fuel:Nat) (x1:ByteArray) (g3:Int):Option Bool :=
 match fuel with
 | 0=>none
 | fuel+1 =>
 (bif (decide (g3 < (x1.size:Int))) then
 (bidx x1 g3).bind fun v6 =>
 (bif (decide (97≤v6)) then
 (bif (decide (v6≤122)) then
 z7 fuel x1 (w64 (g3+1))
 else
 (zeL fuel (⟨#[42,63,61,43,60]⟩:ByteArray) v6).bind fun v9 =>
 (bif (decide (0≤v9)) then
 z7 fuel x1 (w64 (g3+1))
 else
 (bif (decide (0 < g3)) then
 (bif (decide (48≤v6)) then
 (bif (decide (v6≤57)) then
 z7 fuel x1 (w64 (g3+1))
 else
 (bif (decide (v6=45)) then
 z7 fuel x1 (w64 (g3+1))
 else
 some false))
 else
 (bif (decide (v6=45)) then
 z7 fuel x1 (w64 (g3+1))
 else
 some false))
 else
 some false)))
 else
 (zeL fuel (⟨#[42,63,61,43,60]⟩:ByteArray) v6).bind fun v16 =>
 (bif (decide (0≤v16)) then
 z7 fuel x1 (w64 (g3+1))
 else
 (bif (decide (0 < g3)) then
 (bif (decide (48≤v6)) then
 (bif (decide (v6≤57)) then
 z7 fuel x1 (w64 (g3+1))
 else
 (bif (decide (v6=45)) then
 z7 fuel x1 (w64 (g3+1))
 else
 some false))
 else
 (bif (decide (v6=45)) then
 z7 fuel x1 (w64 (g3+1))
 else
 some false))
 else
 some false)))
 else
 (zdC fuel (x1.size:Int) 1 12).bind fun v23 =>
 some v23)
def zea (fuel:Nat) (x1:ByteArray):Option Bool :=
 (bif (decide (x1=(⟨#[46,46,46]⟩:ByteArray))) then
 some true
 else
 (bif (decide (x1=(⟨#[95]⟩:ByteArray))) then
 some true
 else
 z7 fuel x1 0))
def zbI (fuel:Nat) (x1:(List Int)) (g1:Int):Option Bool :=
 match fuel with
 | 0=>none
 | fuel+1 =>
 (bif (decide (g1 < (x1.length:Int))) then
 (idx x1 g1).bind fun v5 =>
 (zdC fuel v5 1 99).bind fun v6 =>
 (bif (!v6) then
 some false
 else
 (bif (decide (0 < g1)) then
 (idx x1 (w64 (g1-1))).bind fun v9 =>
 (bif (decide (v5≤v9)) then
 some false
 else
 zbI fuel x1 (g1+1))
 else
 zbI fuel x1 (g1+1)))
 else
 some (decide ((x1.length:Int)≤24)))
def zeD (fuel:Nat) (x1:(List Int)):Option Bool :=
 zbI fuel x1 0
mutual
def zeS (fuel:Nat) (x1:Form) (x2:Int) (o1:Int):Option (Bool × Int) :=
 match fuel with
 | 0=>none
 | fuel+1 =>
 (bif (decide ((w64 (o1-1)) < 0)) then
 some (false,(w64 (o1-1)))
 else
 (bif (decide (40 < x2)) then
 some (false,(w64 (o1-1)))
 else
 (bif (decide (x1.kind=1)) then
 (zea fuel x1.name).bind fun v4 =>
 (bif v4 then
 (bif (decide (x1.n=0)) then
 (zeD fuel x1.scopes).bind fun v7 =>
 (bif v7 then
 some ((decide ((x1.kids.length:Int)=0)),(w64 (o1-1)))
 else
 some (false,(w64 (o1-1))))
 else
 some (false,(w64 (o1-1))))
 else
 some (false,(w64 (o1-1))))
 else
 (bif (decide (x1.kind=2)) then
 (bif (decide (x1.name=(⟨#[]⟩:ByteArray))) then
 (zdC fuel x1.n 0 999).bind fun v11 =>
 (bif v11 then
 (bif (decide ((x1.scopes.length:Int)=0)) then
 some ((decide ((x1.kids.length:Int)=0)),(w64 (o1-1)))
 else
 some (false,(w64 (o1-1))))
 else
 some (false,(w64 (o1-1))))
 else
 some (false,(w64 (o1-1))))
 else
 (bif (decide (x1.kind=3)) then
 (bif (decide (x1.name≠(⟨#[]⟩:ByteArray))) then
 some (false,(w64 (o1-1)))
 else
 (bif (decide (x1.n≠0)) then
 some (false,(w64 (o1-1)))
 else
 (bif (decide (0 < (x1.scopes.length:Int))) then
 some (false,(w64 (o1-1)))
 else
 zcO fuel x1 x2 0 (w64 (o1-1)))))
 else
 some (false,(w64 (o1-1))))))))
def zcO (fuel:Nat) (x1:Form) (x2:Int) (g19:Int) (g20:Int):Option (Bool × Int) :=
 match fuel with
 | 0=>none
 | fuel+1 =>
 (bif (decide (g19 < (x1.kids.length:Int))) then
 (idx x1.kids g19).bind fun v24 =>
 (zeS fuel v24 (w64 (x2+1)) g20).bind fun v25 =>
 (bif (!v25.1) then
 some (false,v25.2)
 else
 zcO fuel x1 x2 (g19+1) v25.2)
 else
 some (true,g20))
end
def zbb (fuel:Nat) (x1:Form):Option Bool :=
 (zeS fuel x1 1 400).bind fun v1 =>
 some v1.1
def zdD (fuel:Nat) (x1:Form):Option Bool :=
 (bif (decide (x1.kind=1)) then
 (zbb fuel x1).bind fun v2 =>
 some v2
 else
 some false)
def zbL (fuel:Nat) (x1:(List Int)) (x2:(List Int)) (g2:Int):Option Bool :=
 match fuel with
 | 0=>none
 | fuel+1 =>
 (bif (decide (g2 < (x1.length:Int))) then
 (idx x1 g2).bind fun v6 =>
 (idx x2 g2).bind fun v7 =>
 (bif (decide (v6≠v7)) then
 some false
 else
 zbL fuel x1 x2 (g2+1))
 else
 some true)
def zdk (fuel:Nat) (x1:(List Int)) (x2:(List Int)):Option Bool :=
 (bif (decide ((x1.length:Int)≠(x2.length:Int))) then
 some false
 else
 zbL fuel x1 x2 0)
mutual
def zav (fuel:Nat) (x1:Form) (x2:Form):Option Bool :=
 match fuel with
 | 0=>none
 | fuel+1 =>
 (bif (decide (x1.kind=x2.kind)) then
 (bif (decide (x1.name=x2.name)) then
 (bif (decide (x1.n=x2.n)) then
 (zdk fuel x1.scopes x2.scopes).bind fun v4 =>
 (bif v4 then
 (za1 fuel x1.kids x2.kids).bind fun v6 =>
 some v6
 else
 some false)
 else
 some false)
 else
 some false)
 else
 some false)
def za1 (fuel:Nat) (x1:(List Form)) (x2:(List Form)):Option Bool :=
 match fuel with
 | 0=>none
 | fuel+1 =>
 (bif (decide ((x1.length:Int)≠(x2.length:Int))) then
 some false
 else
 zaf fuel x1 x2 0)
def zaf (fuel:Nat) (x1:(List Form)) (x2:(List Form)) (g2:Int):Option Bool :=
 match fuel with
 | 0=>none
 | fuel+1 =>
 (bif (decide (g2 < (x1.length:Int))) then
 (idx x1 g2).bind fun v6 =>
 (idx x2 g2).bind fun v7 =>
 (zav fuel v6 v7).bind fun v8 =>
 (bif (!v8) then
 some false
 else
 zaf fuel x1 x2 (g2+1))
 else
 some true)
end
mutual
def zeK (fuel:Nat) (x1:Hit):Option Bool :=
 match fuel with
 | 0=>none
 | fuel+1 =>
 (zdD fuel x1.name).bind fun v1 =>
 (bif (!v1) then
 some false
 else
 (bif (decide (x1.name.name=(⟨#[46,46,46]⟩:ByteArray))) then
 some false
 else
 (bif (decide (x1.name.name=(⟨#[95]⟩:ByteArray))) then
 some false
 else
 (zdC fuel x1.depth 0 3).bind fun v5 =>
 (bif (!v5) then
 some false
 else
 (bif (decide (x1.depth=0)) then
 (zbb fuel x1.one).bind fun v8 =>
 (bif v8 then
 some (decide ((x1.many.length:Int)=0))
 else
 some false)
 else
 (zav fuel x1.one (Form.mk 0 (⟨#[]⟩:ByteArray) 0 ([]:List Int) ([]:List Form))).bind fun v10 =>
 (bif v10 then
 (bif (decide ((x1.many.length:Int)≤400)) then
 (zaU fuel x1.many x1).bind fun v13 =>
 some (!v13)
 else
 some false)
 else
 some false))))))
def zeq (fuel:Nat) (x1:Hit) (o1:Hit):Option Bool :=
 match fuel with
 | 0=>none
 | fuel+1 =>
 (zav fuel x1.name o1.name).bind fun v1 =>
 (bif (!v1) then
 some true
 else
 (bif (decide (x1.depth≠(w64 (o1.depth-1)))) then
 some true
 else
 (zeK fuel x1).bind fun v4 =>
 some (!v4)))
def zaU (fuel:Nat) (x1:(List Hit)) (o1:Hit):Option Bool :=
 match fuel with
 | 0=>none
 | fuel+1 =>
 (zbj fuel x1 o1).bind fun v1 =>
 some (decide (0≤v1))
def zbj (fuel:Nat) (x1:(List Hit)) (o1:Hit):Option Int :=
 match fuel with
 | 0=>none
 | fuel+1 =>
 zao fuel x1 o1 0
def zao (fuel:Nat) (x1:(List Hit)) (o1:Hit) (g1:Int):Option Int :=
 match fuel with
 | 0=>none
 | fuel+1 =>
 (bif (decide (g1 < (x1.length:Int))) then
 (idx x1 g1).bind fun v5 =>
 (zeq fuel v5 o1).bind fun v6 =>
 (bif v6 then
 some g1
 else
 zao fuel x1 o1 (g1+1))
 else
 some (-1))
end
def zer (fuel:Nat) (x1:Hit) (o1:Form):Option Bool :=
 (zav fuel x1.name o1).bind fun v1 =>
 some v1
def zX (fuel:Nat) (x1:(List Hit)) (o1:Form) (g1:Int):Option Int :=
 match fuel with
 | 0=>none
 | fuel+1 =>
 (bif (decide (g1 < (x1.length:Int))) then
 (idx x1 g1).bind fun v5 =>
 (zer fuel v5 o1).bind fun v6 =>
 (bif v6 then
 some g1
 else
 zX fuel x1 o1 (g1+1))
 else
 some (-1))
def zbk (fuel:Nat) (x1:(List Hit)) (o1:Form):Option Int :=
 zX fuel x1 o1 0
def zfT (fuel:Nat) (x1:(List Hit)) (x2:Form):Option Int :=
 (zbk fuel x1 x2).bind fun v1 =>
 some v1
def zbN (fuel:Nat) (x1:(List Hit)) (g1:Int):Option Bool :=
 match fuel with
 | 0=>none
 | fuel+1 =>
 (bif (decide (g1 < (x1.length:Int))) then
 (idx x1 g1).bind fun v5 =>
 (zeK fuel v5).bind fun v6 =>
 (bif (!v6) then
 some false
 else
 (sub x1 0 g1).bind fun v8 =>
 (zfT fuel v8 v5.name).bind fun v9 =>
 (bif (decide (0≤v9)) then
 some false
 else
 zbN fuel x1 (g1+1)))
 else
 some (decide ((x1.length:Int)≤20)))
def zfl (fuel:Nat) (x1:(List Hit)):Option Bool :=
 zbN fuel x1 0
def zb2 (fuel:Nat) (x1:Form) (x2:ByteArray):Option Bool :=
 (bif (decide (x1.kind=1)) then
 some (decide (x1.name=x2))
 else
 some false)
def zdX (fuel:Nat) (x1:Form):Option Bool :=
 (zb2 fuel x1 (⟨#[46,46,46]⟩:ByteArray)).bind fun v1 =>
 some v1
def zO (fuel:Nat) (x1:(List Form)) (g1:Int):Option Int :=
 match fuel with
 | 0=>none
 | fuel+1 =>
 (bif (decide (g1 < (x1.length:Int))) then
 (idx x1 g1).bind fun v5 =>
 (zdX fuel v5).bind fun v6 =>
 (bif v6 then
 some g1
 else
 zO fuel x1 (g1+1))
 else
 some (-1))
def za0 (fuel:Nat) (x1:(List Form)):Option Int :=
 zO fuel x1 0
def zeT (fuel:Nat) (x1:(List Form)):Option Int :=
 (za0 fuel x1).bind fun v1 =>
 some v1
mutual
def zdE (fuel:Nat) (x1:Form) (x2:Bool):Option Bool :=
 match fuel with
 | 0=>none
 | fuel+1 =>
 zbT fuel x1 x2 0
def zbT (fuel:Nat) (x1:Form) (x2:Bool) (g1:Int):Option Bool :=
 match fuel with
 | 0=>none
 | fuel+1 =>
 (bif (decide (g1 < (x1.kids.length:Int))) then
 (idx x1.kids g1).bind fun v5 =>
 (zb2 fuel v5 (⟨#[46,46,46]⟩:ByteArray)).bind fun v6 =>
 (bif v6 then
 (bif (decide (g1=0)) then
 some false
 else
 (idx x1.kids (w64 (g1-1))).bind fun v9 =>
 (zb2 fuel v9 (⟨#[46,46,46]⟩:ByteArray)).bind fun v10 =>
 (bif v10 then
 some false
 else
 (bif x2 then
 (sub x1.kids 0 g1).bind fun v13 =>
 (zeT fuel v13).bind fun v14 =>
 (bif (decide (0≤v14)) then
 some false
 else
 zbT fuel x1 x2 (g1+1))
 else
 zbT fuel x1 x2 (g1+1))))
 else
 (zdE fuel v5 x2).bind fun v16 =>
 (bif (!v16) then
 some false
 else
 zbT fuel x1 x2 (g1+1)))
 else
 some true)
end
def zfj (fuel:Nat) (x1:Form) (o1:Form):Option Bool :=
 (zav fuel x1 o1).bind fun v1 =>
 some v1
def zaa (fuel:Nat) (x1:(List Form)) (o1:Form) (g1:Int):Option Int :=
 match fuel with
 | 0=>none
 | fuel+1 =>
 (bif (decide (g1 < (x1.length:Int))) then
 (idx x1 g1).bind fun v5 =>
 (zfj fuel v5 o1).bind fun v6 =>
 (bif v6 then
 some g1
 else
 zaa fuel x1 o1 (g1+1))
 else
 some (-1))
def zbF (fuel:Nat) (x1:(List Form)) (o1:Form):Option Int :=
 zaa fuel x1 o1 0
def zfs (fuel:Nat) (x1:(List Form)) (x2:(List Int)) (x3:Form):Option Int :=
 (bif (decide (x3.kind≠1)) then
 some (-1)
 else
 (zbF fuel x1 x3).bind fun v2 =>
 (bif (decide (v2 < 0)) then
 some (-1)
 else
 (idx x2 v2).bind fun v4 =>
 some v4))
def zg7 (fuel:Nat) (x1:Form) (o1:Bool) (o2:(List Form)) (o3:(List Int)) (o4:Int):Option Bool :=
 (bif o1 then
 some true
 else
 (zfs fuel o2 o3 x1).bind fun v2 =>
 some (decide (o4 < v2)))
mutual
def zbe (fuel:Nat) (x1:Form) (o1:Bool) (o2:(List Form)) (o3:(List Int)) (o4:Int):Option Bool :=
 match fuel with
 | 0=>none
 | fuel+1 =>
 (zg7 fuel x1 o1 o2 o3 o4).bind fun v1 =>
 zaw fuel x1 o2 o3 o4 0 v1
def zaw (fuel:Nat) (x1:Form) (o2:(List Form)) (o3:(List Int)) (o4:Int) (g2:Int) (g3:Bool):Option Bool :=
 match fuel with
 | 0=>none
 | fuel+1 =>
 (bif (decide (g2 < (x1.kids.length:Int))) then
 (idx x1.kids g2).bind fun v7 =>
 (zbe fuel v7 g3 o2 o3 o4).bind fun v8 =>
 zaw fuel x1 o2 o3 o4 (g2+1) v8
 else
 some g3)
end
mutual
def zc3 (fuel:Nat) (x1:Form) (x2:(List Form)) (x3:(List Int)) (x4:Int):Option Bool :=
 match fuel with
 | 0=>none
 | fuel+1 =>
 (zfs fuel x2 x3 x1).bind fun v1 =>
 (bif (decide (x4 < v1)) then
 some false
 else
 zba fuel x1 x2 x3 x4 0)
def zba (fuel:Nat) (x1:Form) (x2:(List Form)) (x3:(List Int)) (x4:Int) (g3:Int):Option Bool :=
 match fuel with
 | 0=>none
 | fuel+1 =>
 (bif (decide (g3 < (x1.kids.length:Int))) then
 (idx x1.kids g3).bind fun v7 =>
 (zb2 fuel v7 (⟨#[46,46,46]⟩:ByteArray)).bind fun v8 =>
 (bif v8 then
 zba fuel x1 x2 x3 x4 (g3+1)
 else
 (bif (decide ((g3+1) < (x1.kids.length:Int))) then
 (idx x1.kids (g3+1)).bind fun v11 =>
 (zb2 fuel v11 (⟨#[46,46,46]⟩:ByteArray)).bind fun v12 =>
 (bif v12 then
 (zbe fuel v7 false x2 x3 x4).bind fun v14 =>
 (bif (!v14) then
 some false
 else
 (zc3 fuel v7 x2 x3 (w64 (x4+1))).bind fun v16 =>
 (bif (!v16) then
 some false
 else
 zba fuel x1 x2 x3 x4 (g3+1)))
 else
 (zc3 fuel v7 x2 x3 x4).bind fun v18 =>
 (bif (!v18) then
 some false
 else
 zba fuel x1 x2 x3 x4 (g3+1)))
 else
 (zc3 fuel v7 x2 x3 x4).bind fun v20 =>
 (bif (!v20) then
 some false
 else
 zba fuel x1 x2 x3 x4 (g3+1))))
 else
 some true)
end
def zdQ (fuel:Nat) (x1:Form) (x2:(List Form)) (x3:(List Int)):Option Bool :=
 (zbb fuel x1).bind fun v1 =>
 (bif v1 then
 (zb2 fuel x1 (⟨#[46,46,46]⟩:ByteArray)).bind fun v3 =>
 (bif (!v3) then
 (zdE fuel x1 false).bind fun v5 =>
 (bif v5 then
 (zc3 fuel x1 x2 x3 0).bind fun v7 =>
 some v7
 else
 some false)
 else
 some false)
 else
 some false)
def zdy (fuel:Nat) (x1:Form) (x2:(List Hit)):Option Bool :=
 (zgn fuel x2).bind fun v1 =>
 (zfl fuel x2).bind fun v2 =>
 (bif v2 then
 (zdQ fuel x1 v1.1 v1.2).bind fun v4 =>
 some v4
 else
 some false)
def zdJ (fuel:Nat) (x1:(List Form)) (x2:Form) (g1:Int):Option Bool :=
 match fuel with
 | 0=>none
 | fuel+1 =>
 (bif (decide (g1 < (x1.length:Int))) then
 (idx x1 g1).bind fun v5 =>
 (zaT fuel v5 x2).bind fun v6 =>
 (bif v6 then
 some true
 else
 zdJ fuel x1 x2 (g1+1))
 else
 some false)
def zfJ (fuel:Nat) (x1:(List Form)) (x2:Form):Option Bool :=
 zdJ fuel x1 x2 0
def zbs (fuel:Nat) (x1:(List Form)) (g1:Int):Option Bool :=
 match fuel with
 | 0=>none
 | fuel+1 =>
 (bif (decide (g1 < (x1.length:Int))) then
 (bif (decide (g1 < 10)) then
 (idx x1 g1).bind fun v5 =>
 (zh2 fuel v5).bind fun v6 =>
 (bif (!v6) then
 some false
 else
 (idx x1 g1).bind fun v8 =>
 (bif (decide (v8.name=(⟨#[46,46,46]⟩:ByteArray))) then
 some false
 else
 (idx x1 g1).bind fun v10 =>
 (bif (decide (v10.name=(⟨#[95]⟩:ByteArray))) then
 some false
 else
 (sub x1 0 g1).bind fun v12 =>
 (idx x1 g1).bind fun v13 =>
 (zfJ fuel v12 v13).bind fun v14 =>
 (bif v14 then
 some false
 else
 zbs fuel x1 (w64 (g1+1))))))
 else
 some (decide ((x1.length:Int) < 10)))
 else
 some (decide ((x1.length:Int) < 10)))
def zdP (fuel:Nat) (x1:(List Form)):Option Bool :=
 zbs fuel x1 0
mutual
def zen (fuel:Nat) (x1:Form):Option Bool :=
 match fuel with
 | 0=>none
 | fuel+1 =>
 (za7 fuel x1).bind fun v1 =>
 (bif v1 then
 some false
 else
 zbX fuel x1 0 0)
def zbX (fuel:Nat) (x1:Form) (g3:Int) (g4:Int):Option Bool :=
 match fuel with
 | 0=>none
 | fuel+1 =>
 (bif (decide (g4 < (x1.kids.length:Int))) then
 (idx x1.kids g4).bind fun v8 =>
 (za7 fuel v8).bind fun v9 =>
 (bif v9 then
 (bif (decide (g4=0)) then
 some false
 else
 (idx x1.kids (w64 (g4-1))).bind fun v12 =>
 (za7 fuel v12).bind fun v13 =>
 (bif v13 then
 some false
 else
 zbX fuel x1 (w64 (g3+1)) (g4+1)))
 else
 (idx x1.kids g4).bind fun v15 =>
 (zen fuel v15).bind fun v16 =>
 (bif (!v16) then
 some false
 else
 zbX fuel x1 g3 (g4+1)))
 else
 some (decide (g3≤1)))
end
def zgM (fuel:Nat) (x1:Form) (x2:(List Form)):Option Bool :=
 (bif (decide (x1.kind=1)) then
 (bif (decide (x1.name≠(⟨#[46,46,46]⟩:ByteArray))) then
 (bif (decide (x1.name≠(⟨#[95]⟩:ByteArray))) then
 (zfJ fuel x2 x1).bind fun v4 =>
 some (!v4)
 else
 some false)
 else
 some false)
 else
 some false)
mutual
def zc2 (fuel:Nat) (x1:(List Form)) (x2:Form) (x3:(List Form)):Option (List Form) :=
 match fuel with
 | 0=>none
 | fuel+1 =>
 (zgM fuel x2 x3).bind fun v1 =>
 (bif v1 then
 chk (decide ((x1.length+[x2].length)*80≤140737488355328)) <|
 zaQ fuel x2 x3 (x1++[x2]) 0
 else
 zaQ fuel x2 x3 x1 0)
def zaQ (fuel:Nat) (x2:Form) (x3:(List Form)) (g4:(List Form)) (g5:Int):Option (List Form) :=
 match fuel with
 | 0=>none
 | fuel+1 =>
 (bif (decide (g5 < (x2.kids.length:Int))) then
 (idx x2.kids g5).bind fun v9 =>
 (zc2 fuel g4 v9 x3).bind fun v10 =>
 zaQ fuel x2 x3 v10 (g5+1)
 else
 some g4)
end
mutual
def zbc (fuel:Nat) (x1:(List Int)) (x2:Form) (x3:(List Form)) (x4:Int):Option (List Int) :=
 match fuel with
 | 0=>none
 | fuel+1 =>
 (zgM fuel x2 x3).bind fun v1 =>
 (bif v1 then
 chk (decide ((x1.length+[x4].length)*8≤140737488355328)) <|
 zag fuel x2 x3 x4 (x1++[x4]) 0
 else
 zag fuel x2 x3 x4 x1 0)
def zag (fuel:Nat) (x2:Form) (x3:(List Form)) (x4:Int) (g4:(List Int)) (g5:Int):Option (List Int) :=
 match fuel with
 | 0=>none
 | fuel+1 =>
 (bif (decide (g5 < (x2.kids.length:Int))) then
 (bif (decide ((g5+1) < (x2.kids.length:Int))) then
 (idx x2.kids (g5+1)).bind fun v10 =>
 (za7 fuel v10).bind fun v11 =>
 (bif v11 then
 (idx x2.kids g5).bind fun v13 =>
 (zbc fuel g4 v13 x3 (w64 (x4+1))).bind fun v14 =>
 zag fuel x2 x3 x4 v14 (g5+1)
 else
 (idx x2.kids g5).bind fun v15 =>
 (zbc fuel g4 v15 x3 x4).bind fun v16 =>
 zag fuel x2 x3 x4 v16 (g5+1))
 else
 (idx x2.kids g5).bind fun v17 =>
 (zbc fuel g4 v17 x3 x4).bind fun v18 =>
 zag fuel x2 x3 x4 v18 (g5+1))
 else
 some g4)
end
mutual
def zdH (fuel:Nat) (g9:(List Form)) (v17:(List Int)) (g18:Int):Option Bool :=
 match fuel with
 | 0=>none
 | fuel+1 =>
 (bif (decide (g18 < (v17.length:Int))) then
 (idx v17 g18).bind fun v22 =>
 (bif (decide (3 < v22)) then
 some false
 else
 zdH fuel g9 v17 (g18+1))
 else
 some (decide ((g9.length:Int)≤20)))
def zdI (fuel:Nat) (x1:Form) (x2:(List Form)) (g8:Int) (g9:(List Form)):Option Bool :=
 match fuel with
 | 0=>none
 | fuel+1 =>
 (bif (decide (g8 < (g9.length:Int))) then
 (sub g9 0 g8).bind fun v13 =>
 (idx g9 g8).bind fun v14 =>
 (zfJ fuel v13 v14).bind fun v15 =>
 (bif v15 then
 some false
 else
 zdI fuel x1 x2 (g8+1) g9)
 else
 (zbc fuel ([]:List Int) x1 x2 0).bind fun v17 =>
 zdH fuel g9 v17 0)
end
def zh1 (fuel:Nat) (x1:Form) (x2:(List Form)):Option Bool :=
 (zbq fuel x1).bind fun v1 =>
 (bif (!v1) then
 some false
 else
 (zdP fuel x2).bind fun v3 =>
 (bif (!v3) then
 some false
 else
 (zen fuel x1).bind fun v5 =>
 (bif (!v5) then
 some false
 else
 (zc2 fuel ([]:List Form) x1 x2).bind fun v7 =>
 zdI fuel x1 x2 0 v7)))
def zbV (fuel:Nat) (v1:(List Form)) (v2:(List Int)) (g3:(List Hit)) (g4:Int):Option (List Hit) :=
 match fuel with
 | 0=>none
 | fuel+1 =>
 (bif (decide (g4 < (v1.length:Int))) then
 (idx v1 g4).bind fun v8 =>
 (idx v2 g4).bind fun v9 =>
 (bif (decide (v9=0)) then
 (idx v1 g4).bind fun v11 =>
 chk (decide ((g3.length+[(Hit.mk v8 v9 v11 ([]:List Hit))].length)*192≤140737488355328)) <|
 zbV fuel v1 v2 (g3++[(Hit.mk v8 v9 v11 ([]:List Hit))]) (g4+1)
 else
 chk (decide ((g3.length+[(Hit.mk v8 v9 (Form.mk 0 (⟨#[]⟩:ByteArray) 0 ([]:List Int) ([]:List Form)) ([]:List Hit))].length)*192≤140737488355328)) <|
 zbV fuel v1 v2 (g3++[(Hit.mk v8 v9 (Form.mk 0 (⟨#[]⟩:ByteArray) 0 ([]:List Int) ([]:List Form)) ([]:List Hit))]) (g4+1))
 else
 some g3)
def zga (fuel:Nat) (x1:Form) (x2:(List Form)):Option (List Hit) :=
 (zc2 fuel ([]:List Form) x1 x2).bind fun v1 =>
 (zbc fuel ([]:List Int) x1 x2 0).bind fun v2 =>
 zbV fuel v1 v2 ([]:List Hit) 0
def zdA (fuel:Nat) (x1:Rule) (x2:(List Form)):Option Bool :=
 (zh1 fuel x1.pattern x2).bind fun v1 =>
 (bif v1 then
 (bif (decide (x1.pattern.kind=3)) then
 (bif (decide (0 < (x1.pattern.kids.length:Int))) then
 (zbq fuel x1.template).bind fun v5 =>
 (bif v5 then
 (zga fuel x1.pattern x2).bind fun v7 =>
 (zem fuel x1.template v7).bind fun v8 =>
 some v8
 else
 some false)
 else
 some false)
 else
 some false)
 else
 some false)
def zhH (fuel:Nat) (x1:Rule) (x2:(List Form)):Option Bool :=
 (zdA fuel x1 x2).bind fun v1 =>
 some v1
def zg8 (fuel:Nat) (x1:Form) (o1:Form):Option Bool :=
 (zav fuel x1 o1).bind fun v1 =>
 some v1
def zap (fuel:Nat) (x1:(List Form)) (o1:Form) (g1:Int):Option Int :=
 match fuel with
 | 0=>none
 | fuel+1 =>
 (bif (decide (g1 < (x1.length:Int))) then
 (idx x1 g1).bind fun v5 =>
 (zg8 fuel v5 o1).bind fun v6 =>
 (bif v6 then
 some g1
 else
 zap fuel x1 o1 (g1+1))
 else
 some (-1))
def zb1 (fuel:Nat) (x1:(List Form)) (o1:Form):Option Int :=
 zap fuel x1 o1 0
def zbH (fuel:Nat) (x1:(List Form)) (o1:Form):Option Bool :=
 (zb1 fuel x1 o1).bind fun v1 =>
 some (decide (0≤v1))
def zfS (fuel:Nat) (x1:(List Form)) (x2:Form):Option Bool :=
 (zbH fuel x1 x2).bind fun v1 =>
 some v1
def zbA (fuel:Nat) (x1:(List Form)) (g1:Int):Option Bool :=
 match fuel with
 | 0=>none
 | fuel+1 =>
 (bif (decide (g1 < (x1.length:Int))) then
 (idx x1 g1).bind fun v5 =>
 (zdD fuel v5).bind fun v6 =>
 (bif (!v6) then
 some false
 else
 (bif (decide (v5.name=(⟨#[46,46,46]⟩:ByteArray))) then
 some false
 else
 (bif (decide (v5.name=(⟨#[95]⟩:ByteArray))) then
 some false
 else
 (sub x1 0 g1).bind fun v10 =>
 (zfS fuel v10 v5).bind fun v11 =>
 (bif v11 then
 some false
 else
 zbA fuel x1 (g1+1)))))
 else
 some (decide ((x1.length:Int)≤9)))
def zdR (fuel:Nat) (x1:(List Form)):Option Bool :=
 zbA fuel x1 0
def zhA (fuel:Nat) (x1:Form) (x2:(List Form)):Option Bool :=
 (bif (decide (x1.kind=1)) then
 (bif (decide (x1.name≠(⟨#[46,46,46]⟩:ByteArray))) then
 (bif (decide (x1.name≠(⟨#[95]⟩:ByteArray))) then
 (zfS fuel x2 x1).bind fun v4 =>
 some (!v4)
 else
 some false)
 else
 some false)
 else
 some false)
mutual
def zbh (fuel:Nat) (x1:Form) (x2:(List Form)) (x3:Int) (o1:(List Form)) (o2:(List Int)):Option ((List Form) × (List Int)) :=
 match fuel with
 | 0=>none
 | fuel+1 =>
 (zhA fuel x1 x2).bind fun v1 =>
 (bif v1 then
 chk (decide ((o1.length+[(Form.mk 0 (⟨#[]⟩:ByteArray) 0 ([]:List Int) ([]:List Form))].length)*80≤140737488355328)) <|
 (idx (o1++[(Form.mk 0 (⟨#[]⟩:ByteArray) 0 ([]:List Int) ([]:List Form))]) (o1.length:Int)).bind fun v4 =>
 chk (decide ((o2.length+[x3].length)*8≤140737488355328)) <|
 zV fuel x1 x2 x3 0 ((o1++[(Form.mk 0 (⟨#[]⟩:ByteArray) 0 ([]:List Int) ([]:List Form))]).set (o1.length:Int).toNat x1) (o2++[x3])
 else
 zV fuel x1 x2 x3 0 o1 o2)
def zV (fuel:Nat) (x1:Form) (x2:(List Form)) (x3:Int) (g6:Int) (g7:(List Form)) (g8:(List Int)):Option ((List Form) × (List Int)) :=
 match fuel with
 | 0=>none
 | fuel+1 =>
 (bif (decide (g6 < (x1.kids.length:Int))) then
 (idx x1.kids g6).bind fun v12 =>
 (bif (decide ((g6+1) < (x1.kids.length:Int))) then
 (idx x1.kids (g6+1)).bind fun v14 =>
 (zb2 fuel v14 (⟨#[46,46,46]⟩:ByteArray)).bind fun v15 =>
 (bif v15 then
 (zbh fuel v12 x2 (w64 (x3+1)) g7 g8).bind fun v17 =>
 zV fuel x1 x2 x3 (g6+1) v17.1 v17.2
 else
 (zbh fuel v12 x2 x3 g7 g8).bind fun v18 =>
 zV fuel x1 x2 x3 (g6+1) v18.1 v18.2)
 else
 (zbh fuel v12 x2 x3 g7 g8).bind fun v19 =>
 zV fuel x1 x2 x3 (g6+1) v19.1 v19.2)
 else
 some (g7,g8))
end
def zeR (fuel:Nat) (x1:Form) (x2:(List Form)):Option ((List Form) × (List Int)) :=
 (zbh fuel x1 x2 0 ([]:List Form) ([]:List Int)).bind fun v1 =>
 some (v1.1,v1.2)
def zaI (fuel:Nat) (v9:(List Form) × (List Int)) (g10:Int) (g11:(List Form)):Option Bool :=
 match fuel with
 | 0=>none
 | fuel+1 =>
 (bif (decide (g10 < (v9.1.length:Int))) then
 (idx g11 g10).bind fun v14 =>
 (sub g11 0 g10).bind fun v15 =>
 (zfS fuel v15 v14).bind fun v16 =>
 (bif v16 then
 some false
 else
 (idx v9.2 g10).bind fun v18 =>
 (bif (decide (3 < v18)) then
 some false
 else
 zaI fuel v9 (w64 (g10+1)) g11))
 else
 some (decide ((g11.length:Int)≤20)))
def zcZ (fuel:Nat) (x1:Form) (x2:(List Form)):Option Bool :=
 (zbb fuel x1).bind fun v1 =>
 (bif (!v1) then
 some false
 else
 (zdR fuel x2).bind fun v3 =>
 (bif (!v3) then
 some false
 else
 (zb2 fuel x1 (⟨#[46,46,46]⟩:ByteArray)).bind fun v5 =>
 (bif v5 then
 some false
 else
 (zdE fuel x1 true).bind fun v7 =>
 (bif (!v7) then
 some false
 else
 (zeR fuel x1 x2).bind fun v9 =>
 zaI fuel v9 0 v9.1))))
def zfk (fuel:Nat) (x1:Rule) (x2:(List Form)):Option Bool :=
 (zcZ fuel x1.pattern x2).bind fun v1 =>
 (bif (!v1) then
 some false
 else
 (bif (decide (x1.pattern.kind≠3)) then
 some false
 else
 (bif (decide ((x1.pattern.kids.length:Int)=0)) then
 some false
 else
 (zeR fuel x1.pattern x2).bind fun v5 =>
 (zdQ fuel x1.template v5.1 v5.2).bind fun v6 =>
 some v6)))
def zgc (fuel:Nat) (x1:(List Int)):Option zb9 :=
 (bif (decide (2000 < (x1.length:Int))) then
 (sub x1 0 2000).bind fun v3 =>
 some (zb9.mk v3 0)
 else
 some (zb9.mk x1 0))
end Go.Abs
