/- A part of the proof: what the functions that the law calls answer, as pure values. -/
import Derived.Test.YtcllpfmjggkpnaaGreatK901cfc26645b
set_option linter.unusedSimpArgs false
set_option linter.unusedVariables false
set_option maxHeartbeats 4000000
namespace Go.Abs
def zeW (fuel:Nat) (x1:Int) (x2:Bool):Option Bool :=
 (bif (decide (97≤x1)) then
 (bif (decide (x1≤122)) then
 some true
 else
 (bif (decide (x1=42)) then
 some true
 else
 (bif (decide (x1=63)) then
 some true
 else
 (bif (decide (x1=61)) then
 some true
 else
 (bif (decide (x1=43)) then
 some true
 else
 (bif (decide (x1=60)) then
 some true
 else
 (bif (!x2) then
 (bif (decide (48≤x1)) then
 (bif (decide (x1≤57)) then
 some true
 else
 some (decide (x1=45)))
 else
 some (decide (x1=45)))
 else
 some false)))))))
 else
 (bif (decide (x1=42)) then
 some true
 else
 (bif (decide (x1=63)) then
 some true
 else
 (bif (decide (x1=61)) then
 some true
 else
 (bif (decide (x1=43)) then
 some true
 else
 (bif (decide (x1=60)) then
 some true
 else
 (bif (!x2) then
 (bif (decide (48≤x1)) then
 (bif (decide (x1≤57)) then
 some true
 else
 some (decide (x1=45)))
 else
 some (decide (x1=45)))
 else
 some false)))))))
def zbu (fuel:Nat) (x1:ByteArray) (g3:Int):Option Bool :=
 match fuel with
 | 0=>none
 | fuel+1 =>
 (bif (decide (g3 < (x1.size:Int))) then
 (bif (decide (g3≤12)) then
 (bidx x1 g3).bind fun v7 =>
 (zeW fuel v7 (decide (g3=0))).bind fun v8 =>
 (bif (!v8) then
 some false
 else
 zbu fuel x1 (w64 (g3+1)))
 else
 (bif (decide (1≤(x1.size:Int))) then
 some (decide ((x1.size:Int)≤12))
 else
 some false))
 else
 (bif (decide (1≤(x1.size:Int))) then
 some (decide ((x1.size:Int)≤12))
 else
 some false))
def zdE (fuel:Nat) (x1:ByteArray):Option Bool :=
 (bif (decide (x1=(⟨#[46,46,46]⟩:ByteArray))) then
 some true
 else
 (bif (decide (x1=(⟨#[95]⟩:ByteArray))) then
 some true
 else
 zbu fuel x1 0))
def zbm (fuel:Nat) (x1:(List Int)) (g1:Int):Option Bool :=
 match fuel with
 | 0=>none
 | fuel+1 =>
 (bif (decide (g1 < (x1.length:Int))) then
 (bif (decide (g1≤24)) then
 (idx x1 g1).bind fun v5 =>
 (bif (decide (v5 < 1)) then
 some false
 else
 (idx x1 g1).bind fun v7 =>
 (bif (decide (99 < v7)) then
 some false
 else
 (bif (decide (0 < g1)) then
 (idx x1 g1).bind fun v10 =>
 (idx x1 (w64 (g1-1))).bind fun v11 =>
 (bif (decide (v10≤v11)) then
 some false
 else
 zbm fuel x1 (w64 (g1+1)))
 else
 zbm fuel x1 (w64 (g1+1)))))
 else
 some (decide ((x1.length:Int)≤24)))
 else
 some (decide ((x1.length:Int)≤24)))
def zdW (fuel:Nat) (x1:(List Int)):Option Bool :=
 zbm fuel x1 0
mutual
def zeX (fuel:Nat) (x1:Form) (x2:Int):Option Bool :=
 match fuel with
 | 0=>none
 | fuel+1 =>
 (bif (decide (x2=0)) then
 some false
 else
 (bif (decide (x1.kind=1)) then
 (zdE fuel x1.name).bind fun v3 =>
 (bif v3 then
 (bif (decide (x1.n=0)) then
 (zdW fuel x1.scopes).bind fun v6 =>
 (bif v6 then
 some (decide ((x1.kids.length:Int)=0))
 else
 some false)
 else
 some false)
 else
 some false)
 else
 (bif (decide (x1.kind=2)) then
 (bif (decide (x1.name=(⟨#[]⟩:ByteArray))) then
 (bif (decide (0≤x1.n)) then
 (bif (decide (x1.n≤999)) then
 (bif (decide ((x1.scopes.length:Int)=0)) then
 some (decide ((x1.kids.length:Int)=0))
 else
 some false)
 else
 some false)
 else
 some false)
 else
 some false)
 else
 (bif (decide (x1.kind≠3)) then
 some false
 else
 (bif (decide (x1.name≠(⟨#[]⟩:ByteArray))) then
 some false
 else
 (bif (decide (x1.n≠0)) then
 some false
 else
 (bif (decide ((x1.scopes.length:Int)≠0)) then
 some false
 else
 zdO fuel x1 x2 0)))))))
def zdO (fuel:Nat) (x1:Form) (x2:Int) (g17:Int):Option Bool :=
 match fuel with
 | 0=>none
 | fuel+1 =>
 (bif (decide (g17 < (x1.kids.length:Int))) then
 (idx x1.kids g17).bind fun v21 =>
 (zeX fuel v21 (w64 (x2-1))).bind fun v22 =>
 (bif (!v22) then
 some false
 else
 zdO fuel x1 x2 (g17+1))
 else
 some true)
end
mutual
def zdh (fuel:Nat) (x1:Form):Option Int :=
 match fuel with
 | 0=>none
 | fuel+1 =>
 zb3 fuel x1 1 0
def zb3 (fuel:Nat) (x1:Form) (g1:Int) (g2:Int):Option Int :=
 match fuel with
 | 0=>none
 | fuel+1 =>
 (bif (decide (g2 < (x1.kids.length:Int))) then
 (idx x1.kids g2).bind fun v6 =>
 (zdh fuel v6).bind fun v7 =>
 zb3 fuel x1 (w64 (g1+v7)) (g2+1)
 else
 some g1)
end
def zaF (fuel:Nat) (x1:Form):Option Bool :=
 (zeX fuel x1 40).bind fun v1 =>
 (bif v1 then
 (zdh fuel x1).bind fun v3 =>
 some (decide (v3≤400))
 else
 some false)
def zgn (fuel:Nat) (x1:Form):Option Bool :=
 (bif (decide (x1.kind=1)) then
 (zaF fuel x1).bind fun v2 =>
 some v2
 else
 some false)
def zc3 (fuel:Nat) (x1:(List Int)) (x2:(List Int)) (g2:Int):Option Bool :=
 match fuel with
 | 0=>none
 | fuel+1 =>
 (bif (decide (g2 < (x1.length:Int))) then
 (idx x1 g2).bind fun v6 =>
 (idx x2 g2).bind fun v7 =>
 (bif (decide (v6≠v7)) then
 some false
 else
 zc3 fuel x1 x2 (g2+1))
 else
 some true)
def zfc (fuel:Nat) (x1:(List Int)) (x2:(List Int)):Option Bool :=
 (bif (decide ((x1.length:Int)≠(x2.length:Int))) then
 some false
 else
 zc3 fuel x1 x2 0)
mutual
def zav (fuel:Nat) (x1:Form) (x2:Form):Option Bool :=
 match fuel with
 | 0=>none
 | fuel+1 =>
 (bif (decide (x1.kind≠x2.kind)) then
 some false
 else
 (bif (decide (x1.name≠x2.name)) then
 some false
 else
 (bif (decide (x1.n≠x2.n)) then
 some false
 else
 (zfc fuel x1.scopes x2.scopes).bind fun v4 =>
 (bif (!v4) then
 some false
 else
 (bif (decide ((x1.kids.length:Int)≠(x2.kids.length:Int))) then
 some false
 else
 zcc fuel x1 x2 0)))))
def zcc (fuel:Nat) (x1:Form) (x2:Form) (g7:Int):Option Bool :=
 match fuel with
 | 0=>none
 | fuel+1 =>
 (bif (decide (g7 < (x1.kids.length:Int))) then
 (idx x1.kids g7).bind fun v11 =>
 (idx x2.kids g7).bind fun v12 =>
 (zav fuel v11 v12).bind fun v13 =>
 (bif (!v13) then
 some false
 else
 zcc fuel x1 x2 (g7+1))
 else
 some true)
end
mutual
def zeV (fuel:Nat) (x1:Hit) (x2:Int):Option Bool :=
 match fuel with
 | 0=>none
 | fuel+1 =>
 (bif (decide (x1.depth≠x2)) then
 some false
 else
 (bif (decide (x2 < 0)) then
 some false
 else
 (bif (decide (3 < x2)) then
 some false
 else
 (zgn fuel x1.name).bind fun v4 =>
 (bif (!v4) then
 some false
 else
 (bif (decide (x1.name.name=(⟨#[46,46,46]⟩:ByteArray))) then
 some false
 else
 (bif (decide (x1.name.name=(⟨#[95]⟩:ByteArray))) then
 some false
 else
 (bif (decide (x2=0)) then
 (zaF fuel x1.one).bind fun v9 =>
 (bif v9 then
 some (decide ((x1.many.length:Int)=0))
 else
 some false)
 else
 zcP fuel x1 x2 0)))))))
def zcP (fuel:Nat) (x1:Hit) (x2:Int) (g11:Int):Option Bool :=
 match fuel with
 | 0=>none
 | fuel+1 =>
 (bif (decide (g11 < (x1.many.length:Int))) then
 (idx x1.many g11).bind fun v15 =>
 (zav fuel v15.name x1.name).bind fun v16 =>
 (bif (!v16) then
 some false
 else
 (idx x1.many g11).bind fun v18 =>
 (zeV fuel v18 (w64 (x2-1))).bind fun v19 =>
 (bif (!v19) then
 some false
 else
 zcP fuel x1 x2 (g11+1)))
 else
 (zav fuel x1.one (Form.mk 0 (⟨#[]⟩:ByteArray) 0 ([]:List Int) ([]:List Form))).bind fun v21 =>
 (bif v21 then
 some (decide ((x1.many.length:Int)≤400))
 else
 some false))
end
mutual
def zbv (fuel:Nat) (x1:(List Hit)) (g1:Int) (g9:Int):Option Bool :=
 match fuel with
 | 0=>none
 | fuel+1 =>
 (bif (decide (g9 < g1)) then
 (idx x1 g9).bind fun v12 =>
 (idx x1 g1).bind fun v13 =>
 (zav fuel v12.name v13.name).bind fun v14 =>
 (bif v14 then
 some false
 else
 zbv fuel x1 g1 (w64 (g9+1)))
 else
 zbw fuel x1 (w64 (g1+1)))
def zbw (fuel:Nat) (x1:(List Hit)) (g1:Int):Option Bool :=
 match fuel with
 | 0=>none
 | fuel+1 =>
 (bif (decide (g1 < (x1.length:Int))) then
 (bif (decide (g1≤20)) then
 (idx x1 g1).bind fun v5 =>
 (idx x1 g1).bind fun v6 =>
 (zeV fuel v5 v6.depth).bind fun v7 =>
 (bif (!v7) then
 some false
 else
 zbv fuel x1 g1 0)
 else
 some (decide ((x1.length:Int)≤20)))
 else
 some (decide ((x1.length:Int)≤20)))
end
def zev (fuel:Nat) (x1:(List Hit)):Option Bool :=
 zbw fuel x1 0
def zaV (fuel:Nat) (x1:Form):Option Bool :=
 (bif (decide (x1.kind=1)) then
 some (decide (x1.name=(⟨#[46,46,46]⟩:ByteArray)))
 else
 some false)
def zbU (fuel:Nat) (x1:(List Hit)) (x2:Form) (g1:Int):Option Int :=
 match fuel with
 | 0=>none
 | fuel+1 =>
 (bif (decide (g1 < (x1.length:Int))) then
 (idx x1 g1).bind fun v5 =>
 (zav fuel v5.name x2).bind fun v6 =>
 (bif v6 then
 some g1
 else
 zbU fuel x1 x2 (g1+1))
 else
 some (-1))
def zd9 (fuel:Nat) (x1:(List Hit)) (x2:Form):Option Int :=
 zbU fuel x1 x2 0
def zeE (fuel:Nat) (x1:(List Hit)) (x2:Form):Option Int :=
 (bif (decide (x2.kind≠1)) then
 some (-1)
 else
 (zd9 fuel x1 x2).bind fun v2 =>
 (bif (decide (v2 < 0)) then
 some (-1)
 else
 (idx x1 v2).bind fun v4 =>
 some v4.depth))
mutual
def zd8 (fuel:Nat) (x1:(List Hit)) (x2:Form):Option Bool :=
 match fuel with
 | 0=>none
 | fuel+1 =>
 (zeE fuel x1 x2).bind fun v1 =>
 (bif (decide (0 < v1)) then
 some true
 else
 zck fuel x1 x2 0)
def zck (fuel:Nat) (x1:(List Hit)) (x2:Form) (g3:Int):Option Bool :=
 match fuel with
 | 0=>none
 | fuel+1 =>
 (bif (decide (g3 < (x2.kids.length:Int))) then
 (idx x2.kids g3).bind fun v7 =>
 (zd8 fuel x1 v7).bind fun v8 =>
 (bif v8 then
 some true
 else
 zck fuel x1 x2 (g3+1))
 else
 some false)
end
def zbS (fuel:Nat) (x1:(List Hit)) (g1:(List Hit)) (g2:Int):Option (List Hit) :=
 match fuel with
 | 0=>none
 | fuel+1 =>
 (bif (decide (g2 < (x1.length:Int))) then
 (idx x1 g2).bind fun v6 =>
 (idx x1 g2).bind fun v7 =>
 (idx x1 g2).bind fun v8 =>
 (bif (decide (0 < v7.depth)) then
 chk (decide ((g1.length+[(Hit.mk v6.name (w64 (v7.depth-1)) v8.one ([]:List Hit))].length)*192≤140737488355328)) <|
 zbS fuel x1 (g1++[(Hit.mk v6.name (w64 (v7.depth-1)) v8.one ([]:List Hit))]) (g2+1)
 else
 chk (decide ((g1.length+[(Hit.mk v6.name v7.depth v8.one ([]:List Hit))].length)*192≤140737488355328)) <|
 zbS fuel x1 (g1++[(Hit.mk v6.name v7.depth v8.one ([]:List Hit))]) (g2+1))
 else
 some g1)
def zfW (fuel:Nat) (x1:(List Hit)):Option (List Hit) :=
 zbS fuel x1 ([]:List Hit) 0
mutual
def zdq (fuel:Nat) (x1:Form) (x2:(List Hit)):Option Bool :=
 match fuel with
 | 0=>none
 | fuel+1 =>
 (zaV fuel x1).bind fun v1 =>
 (bif v1 then
 some false
 else
 (zeE fuel x2 x1).bind fun v3 =>
 (bif (decide (0 < v3)) then
 some false
 else
 zbB fuel x1 x2 0))
def zbB (fuel:Nat) (x1:Form) (x2:(List Hit)) (g5:Int):Option Bool :=
 match fuel with
 | 0=>none
 | fuel+1 =>
 (bif (decide (g5 < (x1.kids.length:Int))) then
 (idx x1.kids g5).bind fun v9 =>
 (zaV fuel v9).bind fun v10 =>
 (bif v10 then
 (bif (decide (g5=0)) then
 some false
 else
 (idx x1.kids (w64 (g5-1))).bind fun v13 =>
 (zaV fuel v13).bind fun v14 =>
 (bif v14 then
 some false
 else
 zbB fuel x1 x2 (g5+1)))
 else
 (bif (decide ((g5+1) < (x1.kids.length:Int))) then
 (idx x1.kids (g5+1)).bind fun v17 =>
 (zaV fuel v17).bind fun v18 =>
 (bif v18 then
 (idx x1.kids g5).bind fun v20 =>
 (zd8 fuel x2 v20).bind fun v21 =>
 (bif (!v21) then
 some false
 else
 (idx x1.kids g5).bind fun v23 =>
 (zfW fuel x2).bind fun v24 =>
 (zdq fuel v23 v24).bind fun v25 =>
 (bif (!v25) then
 some false
 else
 zbB fuel x1 x2 (g5+1)))
 else
 (idx x1.kids g5).bind fun v27 =>
 (zdq fuel v27 x2).bind fun v28 =>
 (bif (!v28) then
 some false
 else
 zbB fuel x1 x2 (g5+1)))
 else
 (idx x1.kids g5).bind fun v30 =>
 (zdq fuel v30 x2).bind fun v31 =>
 (bif (!v31) then
 some false
 else
 zbB fuel x1 x2 (g5+1))))
 else
 some true)
end
def zc6 (fuel:Nat) (x1:Form) (x2:(List Hit)):Option Bool :=
 (zaF fuel x1).bind fun v1 =>
 (bif v1 then
 (zev fuel x2).bind fun v3 =>
 (bif v3 then
 (zdq fuel x1 x2).bind fun v5 =>
 some v5
 else
 some false)
 else
 some false)
def zb5 (fuel:Nat) (x1:(List Hit)) (g1:(List Form)) (g2:(List Int)) (g3:Int):Option ((List Form) × (List Int)) :=
 match fuel with
 | 0=>none
 | fuel+1 =>
 (bif (decide (g3 < (x1.length:Int))) then
 (idx x1 g3).bind fun v7 =>
 chk (decide ((g1.length+[v7.name].length)*80≤140737488355328)) <|
 chk (decide ((g2.length+[v7.depth].length)*8≤140737488355328)) <|
 zb5 fuel x1 (g1++[v7.name]) (g2++[v7.depth]) (g3+1)
 else
 some (g1,g2))
def zfp (fuel:Nat) (x1:(List Hit)):Option ((List Form) × (List Int)) :=
 zb5 fuel x1 ([]:List Form) ([]:List Int) 0
def zd7 (fuel:Nat) (x1:ByteArray) (x2:Int):Option Int :=
 some (Lib.indexByte x1.data.toList x2.toNat.toUInt8)
def zdb (fuel:Nat) (x1:Int) (x2:Int) (x3:Int):Option Bool :=
 (bif (decide (x2≤x1)) then
 some (decide (x1≤x3))
 else
 some false)
def z8 (fuel:Nat) (x1:ByteArray) (g3:Int):Option Bool :=
 match fuel with
 | 0=>none
 | fuel+1 =>
 (bif (decide (g3 < (x1.size:Int))) then
 (bidx x1 g3).bind fun v6 =>
 (bif (decide (97≤v6)) then
 (bif (decide (v6≤122)) then
 z8 fuel x1 (w64 (g3+1))
 else
 (zd7 fuel (⟨#[42,63,61,43,60]⟩:ByteArray) v6).bind fun v9 =>
 (bif (decide (0≤v9)) then
 z8 fuel x1 (w64 (g3+1))
 else
 (bif (decide (0 < g3)) then
 (bif (decide (48≤v6)) then
 (bif (decide (v6≤57)) then
 z8 fuel x1 (w64 (g3+1))
 else
 (bif (decide (v6=45)) then
 z8 fuel x1 (w64 (g3+1))
 else
 some false))
 else
 (bif (decide (v6=45)) then
 z8 fuel x1 (w64 (g3+1))
 else
 some false))
 else
 some false)))
 else
 (zd7 fuel (⟨#[42,63,61,43,60]⟩:ByteArray) v6).bind fun v16 =>
 (bif (decide (0≤v16)) then
 z8 fuel x1 (w64 (g3+1))
 else
 (bif (decide (0 < g3)) then
 (bif (decide (48≤v6)) then
 (bif (decide (v6≤57)) then
 z8 fuel x1 (w64 (g3+1))
 else
 (bif (decide (v6=45)) then
 z8 fuel x1 (w64 (g3+1))
 else
 some false))
 else
 (bif (decide (v6=45)) then
 z8 fuel x1 (w64 (g3+1))
 else
 some false))
 else
 some false)))
 else
 (zdb fuel (x1.size:Int) 1 12).bind fun v23 =>
 some v23)
def zeA (fuel:Nat) (x1:ByteArray):Option Bool :=
 (bif (decide (x1=(⟨#[46,46,46]⟩:ByteArray))) then
 some true
 else
 (bif (decide (x1=(⟨#[95]⟩:ByteArray))) then
 some true
 else
 z8 fuel x1 0))
def zbo (fuel:Nat) (x1:(List Int)) (g1:Int):Option Bool :=
 match fuel with
 | 0=>none
 | fuel+1 =>
 (bif (decide (g1 < (x1.length:Int))) then
 (idx x1 g1).bind fun v5 =>
 (zdb fuel v5 1 99).bind fun v6 =>
 (bif (!v6) then
 some false
 else
 (bif (decide (0 < g1)) then
 (idx x1 (w64 (g1-1))).bind fun v9 =>
 (bif (decide (v5≤v9)) then
 some false
 else
 zbo fuel x1 (g1+1))
 else
 zbo fuel x1 (g1+1)))
 else
 some (decide ((x1.length:Int)≤24)))
def zeY (fuel:Nat) (x1:(List Int)):Option Bool :=
 zbo fuel x1 0
mutual
def zec (fuel:Nat) (x1:Form) (x2:Int) (o1:Int):Option (Bool × Int) :=
 match fuel with
 | 0=>none
 | fuel+1 =>
 (bif (decide ((w64 (o1-1)) < 0)) then
 some (false,(w64 (o1-1)))
 else
 (bif (decide (40 < x2)) then
 some (false,(w64 (o1-1)))
 else
 (bif (decide (x1.kind=1)) then
 (zeA fuel x1.name).bind fun v4 =>
 (bif v4 then
 (bif (decide (x1.n=0)) then
 (zeY fuel x1.scopes).bind fun v7 =>
 (bif v7 then
 some ((decide ((x1.kids.length:Int)=0)),(w64 (o1-1)))
 else
 some (false,(w64 (o1-1))))
 else
 some (false,(w64 (o1-1))))
 else
 some (false,(w64 (o1-1))))
 else
 (bif (decide (x1.kind=2)) then
 (bif (decide (x1.name=(⟨#[]⟩:ByteArray))) then
 (zdb fuel x1.n 0 999).bind fun v11 =>
 (bif v11 then
 (bif (decide ((x1.scopes.length:Int)=0)) then
 some ((decide ((x1.kids.length:Int)=0)),(w64 (o1-1)))
 else
 some (false,(w64 (o1-1))))
 else
 some (false,(w64 (o1-1))))
 else
 some (false,(w64 (o1-1))))
 else
 (bif (decide (x1.kind=3)) then
 (bif (decide (x1.name≠(⟨#[]⟩:ByteArray))) then
 some (false,(w64 (o1-1)))
 else
 (bif (decide (x1.n≠0)) then
 some (false,(w64 (o1-1)))
 else
 (bif (decide (0 < (x1.scopes.length:Int))) then
 some (false,(w64 (o1-1)))
 else
 zcx fuel x1 x2 0 (w64 (o1-1)))))
 else
 some (false,(w64 (o1-1))))))))
def zcx (fuel:Nat) (x1:Form) (x2:Int) (g19:Int) (g20:Int):Option (Bool × Int) :=
 match fuel with
 | 0=>none
 | fuel+1 =>
 (bif (decide (g19 < (x1.kids.length:Int))) then
 (idx x1.kids g19).bind fun v24 =>
 (zec fuel v24 (w64 (x2+1)) g20).bind fun v25 =>
 (bif (!v25.1) then
 some (false,v25.2)
 else
 zcx fuel x1 x2 (g19+1) v25.2)
 else
 some (true,g20))
end
def zbX (fuel:Nat) (x1:Form):Option Bool :=
 (zec fuel x1 1 400).bind fun v1 =>
 some v1.1
def zf8 (fuel:Nat) (x1:Form):Option Bool :=
 (bif (decide (x1.kind=1)) then
 (zbX fuel x1).bind fun v2 =>
 some v2
 else
 some false)
def zby (fuel:Nat) (x1:(List Int)) (x2:(List Int)) (g2:Int):Option Bool :=
 match fuel with
 | 0=>none
 | fuel+1 =>
 (bif (decide (g2 < (x1.length:Int))) then
 (idx x1 g2).bind fun v6 =>
 (idx x2 g2).bind fun v7 =>
 (bif (decide (v6≠v7)) then
 some false
 else
 zby fuel x1 x2 (g2+1))
 else
 some true)
def zdJ (fuel:Nat) (x1:(List Int)) (x2:(List Int)):Option Bool :=
 (bif (decide ((x1.length:Int)≠(x2.length:Int))) then
 some false
 else
 zby fuel x1 x2 0)
mutual
def zaz (fuel:Nat) (x1:Form) (x2:Form):Option Bool :=
 match fuel with
 | 0=>none
 | fuel+1 =>
 (bif (decide (x1.kind=x2.kind)) then
 (bif (decide (x1.name=x2.name)) then
 (bif (decide (x1.n=x2.n)) then
 (zdJ fuel x1.scopes x2.scopes).bind fun v4 =>
 (bif v4 then
 (zaR fuel x1.kids x2.kids).bind fun v6 =>
 some v6
 else
 some false)
 else
 some false)
 else
 some false)
 else
 some false)
def zaR (fuel:Nat) (x1:(List Form)) (x2:(List Form)):Option Bool :=
 match fuel with
 | 0=>none
 | fuel+1 =>
 (bif (decide ((x1.length:Int)≠(x2.length:Int))) then
 some false
 else
 zaf fuel x1 x2 0)
def zaf (fuel:Nat) (x1:(List Form)) (x2:(List Form)) (g2:Int):Option Bool :=
 match fuel with
 | 0=>none
 | fuel+1 =>
 (bif (decide (g2 < (x1.length:Int))) then
 (idx x1 g2).bind fun v6 =>
 (idx x2 g2).bind fun v7 =>
 (zaz fuel v6 v7).bind fun v8 =>
 (bif (!v8) then
 some false
 else
 zaf fuel x1 x2 (g2+1))
 else
 some true)
end
mutual
def zd6 (fuel:Nat) (x1:Hit):Option Bool :=
 match fuel with
 | 0=>none
 | fuel+1 =>
 (zf8 fuel x1.name).bind fun v1 =>
 (bif (!v1) then
 some false
 else
 (bif (decide (x1.name.name=(⟨#[46,46,46]⟩:ByteArray))) then
 some false
 else
 (bif (decide (x1.name.name=(⟨#[95]⟩:ByteArray))) then
 some false
 else
 (zdb fuel x1.depth 0 3).bind fun v5 =>
 (bif (!v5) then
 some false
 else
 (bif (decide (x1.depth=0)) then
 (zbX fuel x1.one).bind fun v8 =>
 (bif v8 then
 some (decide ((x1.many.length:Int)=0))
 else
 some false)
 else
 (zaz fuel x1.one (Form.mk 0 (⟨#[]⟩:ByteArray) 0 ([]:List Int) ([]:List Form))).bind fun v10 =>
 (bif v10 then
 (bif (decide ((x1.many.length:Int)≤400)) then
 (zaP fuel x1.many x1).bind fun v13 =>
 some (!v13)
 else
 some false)
 else
 some false))))))
def zdQ (fuel:Nat) (x1:Hit) (o1:Hit):Option Bool :=
 match fuel with
 | 0=>none
 | fuel+1 =>
 (zaz fuel x1.name o1.name).bind fun v1 =>
 (bif (!v1) then
 some true
 else
 (bif (decide (x1.depth≠(w64 (o1.depth-1)))) then
 some true
 else
 (zd6 fuel x1).bind fun v4 =>
 some (!v4)))
def zaP (fuel:Nat) (x1:(List Hit)) (o1:Hit):Option Bool :=
 match fuel with
 | 0=>none
 | fuel+1 =>
 (za1 fuel x1 o1).bind fun v1 =>
 some (decide (0≤v1))
def za1 (fuel:Nat) (x1:(List Hit)) (o1:Hit):Option Int :=
 match fuel with
 | 0=>none
 | fuel+1 =>
 zaj fuel x1 o1 0
def zaj (fuel:Nat) (x1:(List Hit)) (o1:Hit) (g1:Int):Option Int :=
 match fuel with
 | 0=>none
 | fuel+1 =>
 (bif (decide (g1 < (x1.length:Int))) then
 (idx x1 g1).bind fun v5 =>
 (zdQ fuel v5 o1).bind fun v6 =>
 (bif v6 then
 some g1
 else
 zaj fuel x1 o1 (g1+1))
 else
 some (-1))
end
def zdR (fuel:Nat) (x1:Hit) (o1:Form):Option Bool :=
 (zaz fuel x1.name o1).bind fun v1 =>
 some v1
def zQ (fuel:Nat) (x1:(List Hit)) (o1:Form) (g1:Int):Option Int :=
 match fuel with
 | 0=>none
 | fuel+1 =>
 (bif (decide (g1 < (x1.length:Int))) then
 (idx x1 g1).bind fun v5 =>
 (zdR fuel v5 o1).bind fun v6 =>
 (bif v6 then
 some g1
 else
 zQ fuel x1 o1 (g1+1))
 else
 some (-1))
def za2 (fuel:Nat) (x1:(List Hit)) (o1:Form):Option Int :=
 zQ fuel x1 o1 0
def zeZ (fuel:Nat) (x1:(List Hit)) (x2:Form):Option Int :=
 (za2 fuel x1 x2).bind fun v1 =>
 some v1
def zbA (fuel:Nat) (x1:(List Hit)) (g1:Int):Option Bool :=
 match fuel with
 | 0=>none
 | fuel+1 =>
 (bif (decide (g1 < (x1.length:Int))) then
 (idx x1 g1).bind fun v5 =>
 (zd6 fuel v5).bind fun v6 =>
 (bif (!v6) then
 some false
 else
 (sub x1 0 g1).bind fun v8 =>
 (zeZ fuel v8 v5.name).bind fun v9 =>
 (bif (decide (0≤v9)) then
 some false
 else
 zbA fuel x1 (g1+1)))
 else
 some (decide ((x1.length:Int)≤20)))
def zeB (fuel:Nat) (x1:(List Hit)):Option Bool :=
 zbA fuel x1 0
def zcw (fuel:Nat) (x1:Form) (x2:ByteArray):Option Bool :=
 (bif (decide (x1.kind=1)) then
 some (decide (x1.name=x2))
 else
 some false)
def ze0 (fuel:Nat) (x1:Form):Option Bool :=
 (zcw fuel x1 (⟨#[46,46,46]⟩:ByteArray)).bind fun v1 =>
 some v1
def zae (fuel:Nat) (x1:(List Form)) (g1:Int):Option Int :=
 match fuel with
 | 0=>none
 | fuel+1 =>
 (bif (decide (g1 < (x1.length:Int))) then
 (idx x1 g1).bind fun v5 =>
 (ze0 fuel v5).bind fun v6 =>
 (bif v6 then
 some g1
 else
 zae fuel x1 (g1+1))
 else
 some (-1))
def zbr (fuel:Nat) (x1:(List Form)):Option Int :=
 zae fuel x1 0
def zgX (fuel:Nat) (x1:(List Form)):Option Int :=
 (zbr fuel x1).bind fun v1 =>
 some v1
mutual
def zdL (fuel:Nat) (x1:Form) (x2:Bool):Option Bool :=
 match fuel with
 | 0=>none
 | fuel+1 =>
 zbE fuel x1 x2 0
def zbE (fuel:Nat) (x1:Form) (x2:Bool) (g1:Int):Option Bool :=
 match fuel with
 | 0=>none
 | fuel+1 =>
 (bif (decide (g1 < (x1.kids.length:Int))) then
 (idx x1.kids g1).bind fun v5 =>
 (zcw fuel v5 (⟨#[46,46,46]⟩:ByteArray)).bind fun v6 =>
 (bif v6 then
 (bif (decide (g1=0)) then
 some false
 else
 (idx x1.kids (w64 (g1-1))).bind fun v9 =>
 (zcw fuel v9 (⟨#[46,46,46]⟩:ByteArray)).bind fun v10 =>
 (bif v10 then
 some false
 else
 (bif x2 then
 (sub x1.kids 0 g1).bind fun v13 =>
 (zgX fuel v13).bind fun v14 =>
 (bif (decide (0≤v14)) then
 some false
 else
 zbE fuel x1 x2 (g1+1))
 else
 zbE fuel x1 x2 (g1+1))))
 else
 (zdL fuel v5 x2).bind fun v16 =>
 (bif (!v16) then
 some false
 else
 zbE fuel x1 x2 (g1+1)))
 else
 some true)
end
def zez (fuel:Nat) (x1:Form) (o1:Form):Option Bool :=
 (zaz fuel x1 o1).bind fun v1 =>
 some v1
def zad (fuel:Nat) (x1:(List Form)) (o1:Form) (g1:Int):Option Int :=
 match fuel with
 | 0=>none
 | fuel+1 =>
 (bif (decide (g1 < (x1.length:Int))) then
 (idx x1 g1).bind fun v5 =>
 (zez fuel v5 o1).bind fun v6 =>
 (bif v6 then
 some g1
 else
 zad fuel x1 o1 (g1+1))
 else
 some (-1))
def zbn (fuel:Nat) (x1:(List Form)) (o1:Form):Option Int :=
 zad fuel x1 o1 0
def zeI (fuel:Nat) (x1:(List Form)) (x2:(List Int)) (x3:Form):Option Int :=
 (bif (decide (x3.kind≠1)) then
 some (-1)
 else
 (zbn fuel x1 x3).bind fun v2 =>
 (bif (decide (v2 < 0)) then
 some (-1)
 else
 (idx x2 v2).bind fun v4 =>
 some v4))
def zf7 (fuel:Nat) (x1:Form) (o1:Bool) (o2:(List Form)) (o3:(List Int)) (o4:Int):Option Bool :=
 (bif o1 then
 some true
 else
 (zeI fuel o2 o3 x1).bind fun v2 =>
 some (decide (o4 < v2)))
mutual
def za0 (fuel:Nat) (x1:Form) (o1:Bool) (o2:(List Form)) (o3:(List Int)) (o4:Int):Option Bool :=
 match fuel with
 | 0=>none
 | fuel+1 =>
 (zf7 fuel x1 o1 o2 o3 o4).bind fun v1 =>
 zaw fuel x1 o2 o3 o4 0 v1
def zaw (fuel:Nat) (x1:Form) (o2:(List Form)) (o3:(List Int)) (o4:Int) (g2:Int) (g3:Bool):Option Bool :=
 match fuel with
 | 0=>none
 | fuel+1 =>
 (bif (decide (g2 < (x1.kids.length:Int))) then
 (idx x1.kids g2).bind fun v7 =>
 (za0 fuel v7 g3 o2 o3 o4).bind fun v8 =>
 zaw fuel x1 o2 o3 o4 (g2+1) v8
 else
 some g3)
end
mutual
def zcI (fuel:Nat) (x1:Form) (x2:(List Form)) (x3:(List Int)) (x4:Int):Option Bool :=
 match fuel with
 | 0=>none
 | fuel+1 =>
 (zeI fuel x2 x3 x1).bind fun v1 =>
 (bif (decide (x4 < v1)) then
 some false
 else
 zaX fuel x1 x2 x3 x4 0)
def zaX (fuel:Nat) (x1:Form) (x2:(List Form)) (x3:(List Int)) (x4:Int) (g3:Int):Option Bool :=
 match fuel with
 | 0=>none
 | fuel+1 =>
 (bif (decide (g3 < (x1.kids.length:Int))) then
 (idx x1.kids g3).bind fun v7 =>
 (zcw fuel v7 (⟨#[46,46,46]⟩:ByteArray)).bind fun v8 =>
 (bif v8 then
 zaX fuel x1 x2 x3 x4 (g3+1)
 else
 (bif (decide ((g3+1) < (x1.kids.length:Int))) then
 (idx x1.kids (g3+1)).bind fun v11 =>
 (zcw fuel v11 (⟨#[46,46,46]⟩:ByteArray)).bind fun v12 =>
 (bif v12 then
 (za0 fuel v7 false x2 x3 x4).bind fun v14 =>
 (bif (!v14) then
 some false
 else
 (zcI fuel v7 x2 x3 (w64 (x4+1))).bind fun v16 =>
 (bif (!v16) then
 some false
 else
 zaX fuel x1 x2 x3 x4 (g3+1)))
 else
 (zcI fuel v7 x2 x3 x4).bind fun v18 =>
 (bif (!v18) then
 some false
 else
 zaX fuel x1 x2 x3 x4 (g3+1)))
 else
 (zcI fuel v7 x2 x3 x4).bind fun v20 =>
 (bif (!v20) then
 some false
 else
 zaX fuel x1 x2 x3 x4 (g3+1))))
 else
 some true)
end
def zdY (fuel:Nat) (x1:Form) (x2:(List Form)) (x3:(List Int)):Option Bool :=
 (zbX fuel x1).bind fun v1 =>
 (bif v1 then
 (zcw fuel x1 (⟨#[46,46,46]⟩:ByteArray)).bind fun v3 =>
 (bif (!v3) then
 (zdL fuel x1 false).bind fun v5 =>
 (bif v5 then
 (zcI fuel x1 x2 x3 0).bind fun v7 =>
 some v7
 else
 some false)
 else
 some false)
 else
 some false)
def zc8 (fuel:Nat) (x1:Form) (x2:(List Hit)):Option Bool :=
 (zfp fuel x2).bind fun v1 =>
 (zeB fuel x2).bind fun v2 =>
 (bif v2 then
 (zdY fuel x1 v1.1 v1.2).bind fun v4 =>
 some v4
 else
 some false)
def zdf (fuel:Nat) (x1:(List Form)) (x2:Form) (g1:Int):Option Bool :=
 match fuel with
 | 0=>none
 | fuel+1 =>
 (bif (decide (g1 < (x1.length:Int))) then
 (idx x1 g1).bind fun v5 =>
 (zav fuel v5 x2).bind fun v6 =>
 (bif v6 then
 some true
 else
 zdf fuel x1 x2 (g1+1))
 else
 some false)
def zeU (fuel:Nat) (x1:(List Form)) (x2:Form):Option Bool :=
 zdf fuel x1 x2 0
def zbb (fuel:Nat) (x1:(List Form)) (g1:Int):Option Bool :=
 match fuel with
 | 0=>none
 | fuel+1 =>
 (bif (decide (g1 < (x1.length:Int))) then
 (bif (decide (g1 < 10)) then
 (idx x1 g1).bind fun v5 =>
 (zgn fuel v5).bind fun v6 =>
 (bif (!v6) then
 some false
 else
 (idx x1 g1).bind fun v8 =>
 (bif (decide (v8.name=(⟨#[46,46,46]⟩:ByteArray))) then
 some false
 else
 (idx x1 g1).bind fun v10 =>
 (bif (decide (v10.name=(⟨#[95]⟩:ByteArray))) then
 some false
 else
 (sub x1 0 g1).bind fun v12 =>
 (idx x1 g1).bind fun v13 =>
 (zeU fuel v12 v13).bind fun v14 =>
 (bif v14 then
 some false
 else
 zbb fuel x1 (w64 (g1+1))))))
 else
 some (decide ((x1.length:Int) < 10)))
 else
 some (decide ((x1.length:Int) < 10)))
def zdm (fuel:Nat) (x1:(List Form)):Option Bool :=
 zbb fuel x1 0
mutual
def zdN (fuel:Nat) (x1:Form):Option Bool :=
 match fuel with
 | 0=>none
 | fuel+1 =>
 (zaV fuel x1).bind fun v1 =>
 (bif v1 then
 some false
 else
 zbH fuel x1 0 0)
def zbH (fuel:Nat) (x1:Form) (g3:Int) (g4:Int):Option Bool :=
 match fuel with
 | 0=>none
 | fuel+1 =>
 (bif (decide (g4 < (x1.kids.length:Int))) then
 (idx x1.kids g4).bind fun v8 =>
 (zaV fuel v8).bind fun v9 =>
 (bif v9 then
 (bif (decide (g4=0)) then
 some false
 else
 (idx x1.kids (w64 (g4-1))).bind fun v12 =>
 (zaV fuel v12).bind fun v13 =>
 (bif v13 then
 some false
 else
 zbH fuel x1 (w64 (g3+1)) (g4+1)))
 else
 (idx x1.kids g4).bind fun v15 =>
 (zdN fuel v15).bind fun v16 =>
 (bif (!v16) then
 some false
 else
 zbH fuel x1 g3 (g4+1)))
 else
 some (decide (g3≤1)))
end
def zfR (fuel:Nat) (x1:Form) (x2:(List Form)):Option Bool :=
 (bif (decide (x1.kind=1)) then
 (bif (decide (x1.name≠(⟨#[46,46,46]⟩:ByteArray))) then
 (bif (decide (x1.name≠(⟨#[95]⟩:ByteArray))) then
 (zeU fuel x2 x1).bind fun v4 =>
 some (!v4)
 else
 some false)
 else
 some false)
 else
 some false)
mutual
def zcH (fuel:Nat) (x1:(List Form)) (x2:Form) (x3:(List Form)):Option (List Form) :=
 match fuel with
 | 0=>none
 | fuel+1 =>
 (zfR fuel x2 x3).bind fun v1 =>
 (bif v1 then
 chk (decide ((x1.length+[x2].length)*80≤140737488355328)) <|
 zaN fuel x2 x3 (x1++[x2]) 0
 else
 zaN fuel x2 x3 x1 0)
def zaN (fuel:Nat) (x2:Form) (x3:(List Form)) (g4:(List Form)) (g5:Int):Option (List Form) :=
 match fuel with
 | 0=>none
 | fuel+1 =>
 (bif (decide (g5 < (x2.kids.length:Int))) then
 (idx x2.kids g5).bind fun v9 =>
 (zcH fuel g4 v9 x3).bind fun v10 =>
 zaN fuel x2 x3 v10 (g5+1)
 else
 some g4)
end
mutual
def zaY (fuel:Nat) (x1:(List Int)) (x2:Form) (x3:(List Form)) (x4:Int):Option (List Int) :=
 match fuel with
 | 0=>none
 | fuel+1 =>
 (zfR fuel x2 x3).bind fun v1 =>
 (bif v1 then
 chk (decide ((x1.length+[x4].length)*8≤140737488355328)) <|
 zag fuel x2 x3 x4 (x1++[x4]) 0
 else
 zag fuel x2 x3 x4 x1 0)
def zag (fuel:Nat) (x2:Form) (x3:(List Form)) (x4:Int) (g4:(List Int)) (g5:Int):Option (List Int) :=
 match fuel with
 | 0=>none
 | fuel+1 =>
 (bif (decide (g5 < (x2.kids.length:Int))) then
 (bif (decide ((g5+1) < (x2.kids.length:Int))) then
 (idx x2.kids (g5+1)).bind fun v10 =>
 (zaV fuel v10).bind fun v11 =>
 (bif v11 then
 (idx x2.kids g5).bind fun v13 =>
 (zaY fuel g4 v13 x3 (w64 (x4+1))).bind fun v14 =>
 zag fuel x2 x3 x4 v14 (g5+1)
 else
 (idx x2.kids g5).bind fun v15 =>
 (zaY fuel g4 v15 x3 x4).bind fun v16 =>
 zag fuel x2 x3 x4 v16 (g5+1))
 else
 (idx x2.kids g5).bind fun v17 =>
 (zaY fuel g4 v17 x3 x4).bind fun v18 =>
 zag fuel x2 x3 x4 v18 (g5+1))
 else
 some g4)
end
mutual
def zdd (fuel:Nat) (g9:(List Form)) (v17:(List Int)) (g18:Int):Option Bool :=
 match fuel with
 | 0=>none
 | fuel+1 =>
 (bif (decide (g18 < (v17.length:Int))) then
 (idx v17 g18).bind fun v22 =>
 (bif (decide (3 < v22)) then
 some false
 else
 zdd fuel g9 v17 (g18+1))
 else
 some (decide ((g9.length:Int)≤20)))
def zde (fuel:Nat) (x1:Form) (x2:(List Form)) (g8:Int) (g9:(List Form)):Option Bool :=
 match fuel with
 | 0=>none
 | fuel+1 =>
 (bif (decide (g8 < (g9.length:Int))) then
 (sub g9 0 g8).bind fun v13 =>
 (idx g9 g8).bind fun v14 =>
 (zeU fuel v13 v14).bind fun v15 =>
 (bif v15 then
 some false
 else
 zde fuel x1 x2 (g8+1) g9)
 else
 (zaY fuel ([]:List Int) x1 x2 0).bind fun v17 =>
 zdd fuel g9 v17 0)
end
def zgm (fuel:Nat) (x1:Form) (x2:(List Form)):Option Bool :=
 (zaF fuel x1).bind fun v1 =>
 (bif (!v1) then
 some false
 else
 (zdm fuel x2).bind fun v3 =>
 (bif (!v3) then
 some false
 else
 (zdN fuel x1).bind fun v5 =>
 (bif (!v5) then
 some false
 else
 (zcH fuel ([]:List Form) x1 x2).bind fun v7 =>
 zde fuel x1 x2 0 v7)))
def zbF (fuel:Nat) (v1:(List Form)) (v2:(List Int)) (g3:(List Hit)) (g4:Int):Option (List Hit) :=
 match fuel with
 | 0=>none
 | fuel+1 =>
 (bif (decide (g4 < (v1.length:Int))) then
 (idx v1 g4).bind fun v8 =>
 (idx v2 g4).bind fun v9 =>
 (bif (decide (v9=0)) then
 (idx v1 g4).bind fun v11 =>
 chk (decide ((g3.length+[(Hit.mk v8 v9 v11 ([]:List Hit))].length)*192≤140737488355328)) <|
 zbF fuel v1 v2 (g3++[(Hit.mk v8 v9 v11 ([]:List Hit))]) (g4+1)
 else
 chk (decide ((g3.length+[(Hit.mk v8 v9 (Form.mk 0 (⟨#[]⟩:ByteArray) 0 ([]:List Int) ([]:List Form)) ([]:List Hit))].length)*192≤140737488355328)) <|
 zbF fuel v1 v2 (g3++[(Hit.mk v8 v9 (Form.mk 0 (⟨#[]⟩:ByteArray) 0 ([]:List Int) ([]:List Form)) ([]:List Hit))]) (g4+1))
 else
 some g3)
def zfk (fuel:Nat) (x1:Form) (x2:(List Form)):Option (List Hit) :=
 (zcH fuel ([]:List Form) x1 x2).bind fun v1 =>
 (zaY fuel ([]:List Int) x1 x2 0).bind fun v2 =>
 zbF fuel v1 v2 ([]:List Hit) 0
def zc9 (fuel:Nat) (x1:Rule) (x2:(List Form)):Option Bool :=
 (zgm fuel x1.pattern x2).bind fun v1 =>
 (bif v1 then
 (bif (decide (x1.pattern.kind=3)) then
 (bif (decide (0 < (x1.pattern.kids.length:Int))) then
 (zaF fuel x1.template).bind fun v5 =>
 (bif v5 then
 (zfk fuel x1.pattern x2).bind fun v7 =>
 (zdq fuel x1.template v7).bind fun v8 =>
 some v8
 else
 some false)
 else
 some false)
 else
 some false)
 else
 some false)
def zgE (fuel:Nat) (x1:Rule) (x2:(List Form)):Option Bool :=
 (zc9 fuel x1 x2).bind fun v1 =>
 some v1
def zeF (fuel:Nat) (x1:(List Int)):Option zba :=
 (bif (decide (2000 < (x1.length:Int))) then
 (sub x1 0 2000).bind fun v3 =>
 some (zba.mk v3 0)
 else
 some (zba.mk x1 0))
def zL (fuel:Nat) (o1:zba) (x2:Int):Option (Int × zba) :=
 (bif (decide (x2 < 1)) then
 some (0,(zba.mk o1.b (w64 (o1.p+1))))
 else
 (bif (decide ((o1.b.length:Int)=0)) then
 some (0,(zba.mk o1.b (w64 (o1.p+1))))
 else
 (bif (decide ((w64 ((w64 (o1.p+1))-1)) < (o1.b.length:Int))) then
 (idx o1.b (w64 ((w64 (o1.p+1))-1))).bind fun v4 =>
 chk (decide (x2≠0)) <|
 some (((w64 v4).tmod x2),(zba.mk o1.b (w64 (o1.p+1))))
 else
 chk (decide ((o1.b.length:Int)≠0)) <|
 (idx o1.b ((w64 ((w64 (o1.p+1))-1)).tmod (o1.b.length:Int))).bind fun v7 =>
 chk (decide ((o1.b.length:Int)≠0)) <|
 (idx o1.b ((w64 ((w64 ((w64 ((w64 (o1.p+1))-1))*7))+3)).tmod (o1.b.length:Int))).bind fun v9 =>
 chk (decide ((o1.b.length:Int)≠0)) <|
 chk (decide (x2≠0)) <|
 some (((xor64 (w64 ((w64 ((w64 ((w64 ((w64 v7)*131))+(w64 ((w64 v9)*1117))))+(w64 ((w64 ((w64 (o1.p+1))-1))*29))))+(w64 ((w64 ((w64 ((w64 (o1.p+1))-1)).tdiv (o1.b.length:Int)))*53)))) (w64 ((w64 ((w64 ((w64 ((w64 ((w64 v7)*131))+(w64 ((w64 v9)*1117))))+(w64 ((w64 ((w64 (o1.p+1))-1))*29))))+(w64 ((w64 ((w64 ((w64 (o1.p+1))-1)).tdiv (o1.b.length:Int)))*53)))).tdiv 64))).tmod x2),(zba.mk o1.b (w64 (o1.p+1)))))))
def zeg (fuel:Nat) (x1:ByteArray) (g1:Int):Option Int :=
 match fuel with
 | 0=>none
 | fuel+1 =>
 (bif (decide (g1 < (x1.size:Int))) then
 (bidx x1 g1).bind fun v4 =>
 (bif (decide (v4=32)) then
 zeg fuel x1 (w64 (g1+1))
 else
 some g1)
 else
 some g1)
def zfb (fuel:Nat) (x1:ByteArray) (x2:Int):Option Int :=
 zeg fuel x1 x2
def zef (fuel:Nat) (x1:ByteArray) (g1:Int):Option Int :=
 match fuel with
 | 0=>none
 | fuel+1 =>
 (bif (decide (g1 < (x1.size:Int))) then
 (bidx x1 g1).bind fun v4 =>
 (bif (decide (v4≠32)) then
 (bidx x1 g1).bind fun v6 =>
 (bif (decide (v6≠40)) then
 (bidx x1 g1).bind fun v8 =>
 (bif (decide (v8≠41)) then
 (bidx x1 g1).bind fun v10 =>
 (bif (decide (v10≠123)) then
 zef fuel x1 (w64 (g1+1))
 else
 some g1)
 else
 some g1)
 else
 some g1)
 else
 some g1)
 else
 some g1)
def zhJ (fuel:Nat) (x1:ByteArray) (x2:Int):Option Int :=
 zef fuel x1 x2
end Go.Abs
