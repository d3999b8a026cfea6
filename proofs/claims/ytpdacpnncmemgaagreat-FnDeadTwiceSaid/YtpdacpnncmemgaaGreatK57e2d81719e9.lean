/- A part of the proof: what the functions that the law calls answer, as pure values. -/
import Derived.Test.YtpdacpnncmemgaaGreatKe05290cf3b33
import Derived.Test.YtpdacpnncmemgaaGreatKa647db9ee9e6
set_option linter.unusedSimpArgs false
set_option linter.unusedVariables false
set_option maxHeartbeats 4000000
namespace Go.Abs
def z5 (fuel:Nat) (o1:zbY) (x2:Int):Option (Int × zbY) :=
 (bif (decide (x2 < 1)) then
 some (0,(zbY.mk o1.b (w64 (o1.p+1))))
 else
 (bif (decide ((o1.b.length:Int)=0)) then
 some (0,(zbY.mk o1.b (w64 (o1.p+1))))
 else
 (bif (decide ((w64 ((w64 (o1.p+1))-1)) < (o1.b.length:Int))) then
 (idx o1.b (w64 ((w64 (o1.p+1))-1))).bind fun v4 =>
 chk (decide (x2≠0)) <|
 some (((w64 v4).tmod x2),(zbY.mk o1.b (w64 (o1.p+1))))
 else
 chk (decide ((o1.b.length:Int)≠0)) <|
 (idx o1.b ((w64 ((w64 (o1.p+1))-1)).tmod (o1.b.length:Int))).bind fun v7 =>
 chk (decide ((o1.b.length:Int)≠0)) <|
 (idx o1.b ((w64 ((w64 ((w64 ((w64 (o1.p+1))-1))*7))+3)).tmod (o1.b.length:Int))).bind fun v9 =>
 chk (decide ((o1.b.length:Int)≠0)) <|
 chk (decide (x2≠0)) <|
 some (((xor64 (w64 ((w64 ((w64 ((w64 ((w64 v7)*131))+(w64 ((w64 v9)*1117))))+(w64 ((w64 ((w64 (o1.p+1))-1))*29))))+(w64 ((w64 ((w64 ((w64 (o1.p+1))-1)).tdiv (o1.b.length:Int)))*53)))) (w64 ((w64 ((w64 ((w64 ((w64 ((w64 v7)*131))+(w64 ((w64 v9)*1117))))+(w64 ((w64 ((w64 (o1.p+1))-1))*29))))+(w64 ((w64 ((w64 ((w64 (o1.p+1))-1)).tdiv (o1.b.length:Int)))*53)))).tdiv 64))).tmod x2),(zbY.mk o1.b (w64 (o1.p+1)))))))
def zed (fuel:Nat) (x1:ByteArray) (g1:Int):Option Int :=
 match fuel with
 | 0=>none
 | fuel+1 =>
 (bif (decide (g1 < (x1.size:Int))) then
 (bidx x1 g1).bind fun v4 =>
 (bif (decide (v4=32)) then
 zed fuel x1 (w64 (g1+1))
 else
 some g1)
 else
 some g1)
def zfl (fuel:Nat) (x1:ByteArray) (x2:Int):Option Int :=
 zed fuel x1 x2
def zec (fuel:Nat) (x1:ByteArray) (g1:Int):Option Int :=
 match fuel with
 | 0=>none
 | fuel+1 =>
 (bif (decide (g1 < (x1.size:Int))) then
 (bidx x1 g1).bind fun v4 =>
 (bif (decide (v4≠32)) then
 (bidx x1 g1).bind fun v6 =>
 (bif (decide (v6≠40)) then
 (bidx x1 g1).bind fun v8 =>
 (bif (decide (v8≠41)) then
 (bidx x1 g1).bind fun v10 =>
 (bif (decide (v10≠123)) then
 zec fuel x1 (w64 (g1+1))
 else
 some g1)
 else
 some g1)
 else
 some g1)
 else
 some g1)
 else
 some g1)
def zhX (fuel:Nat) (x1:ByteArray) (x2:Int):Option Int :=
 zec fuel x1 x2
mutual
def zeo (fuel:Nat) (g3:Bool) (g7:ByteArray) (g16:Int) (g17:Int) (g23:Bool):Option (Int × Bool) :=
 match fuel with
 | 0=>none
 | fuel+1 =>
 (bif g23 then
 some (0,false)
 else
 (bidx g7 g17).bind fun v26 =>
 zen fuel g3 g7 (w64 ((w64 (g16*10))+(w64 (w8 (v26-48))))) (w64 (g17+1)))
def zen (fuel:Nat) (g3:Bool) (g7:ByteArray) (g16:Int) (g17:Int):Option (Int × Bool) :=
 match fuel with
 | 0=>none
 | fuel+1 =>
 (bif (decide (g17 < (g7.size:Int))) then
 (bidx g7 g17).bind fun v20 =>
 (bif (decide (v20 < 48)) then
 zeo fuel g3 g7 g16 g17 true
 else
 (bidx g7 g17).bind fun v22 =>
 zeo fuel g3 g7 g16 g17 (decide (57 < v22)))
 else
 (bif g3 then
 some ((w64 (0-g16)),true)
 else
 some (g16,true)))
def zep (fuel:Nat) (g3:Bool) (g7:ByteArray):Option (Int × Bool) :=
 match fuel with
 | 0=>none
 | fuel+1 =>
 zen fuel g3 g7 0 0
def zeq (fuel:Nat) (g3:Bool) (g7:ByteArray):Option (Int × Bool) :=
 match fuel with
 | 0=>none
 | fuel+1 =>
 (bif (decide ((g7.size:Int)=0)) then
 some (0,false)
 else
 (bif (decide (17 < (g7.size:Int))) then
 some (0,false)
 else
 (bidx g7 0).bind fun v11 =>
 (bif (decide (v11=48)) then
 (bif (decide (1 < (g7.size:Int))) then
 some (0,false)
 else
 (bif g3 then
 some (0,false)
 else
 zep fuel g3 g7 ))
 else
 zep fuel g3 g7 )))
def zer (fuel:Nat) (x1:ByteArray) (g3:Bool):Option (Int × Bool) :=
 match fuel with
 | 0=>none
 | fuel+1 =>
 (bif g3 then
 (bsub x1 1 (x1.size:Int)).bind fun v6 =>
 zeq fuel g3 v6
 else
 zeq fuel g3 x1)
end
def zg3 (fuel:Nat) (x1:ByteArray):Option (Int × Bool) :=
 (bif (decide (0 < (x1.size:Int))) then
 (bidx x1 0).bind fun v2 =>
 zer fuel x1 (decide (v2=45))
 else
 zer fuel x1 false)
mutual
def zes (fuel:Nat) (x1:ByteArray) (x2:Int) (g1:(List ByteArray)) (g2:Int) (g3:Int) (g8:Bool):Option (List ByteArray) :=
 match fuel with
 | 0=>none
 | fuel+1 =>
 (bif g8 then
 (bsub x1 g2 g3).bind fun v11 =>
 chk (decide ((g1.length+[v11].length)*16≤140737488355328)) <|
 zdw fuel x1 x2 (g1++[v11]) (w64 (g3+1)) (w64 (g3+1))
 else
 zdw fuel x1 x2 g1 g2 (w64 (g3+1)))
def zdw (fuel:Nat) (x1:ByteArray) (x2:Int) (g1:(List ByteArray)) (g2:Int) (g3:Int):Option (List ByteArray) :=
 match fuel with
 | 0=>none
 | fuel+1 =>
 (bif (decide (g3≤(x1.size:Int))) then
 (bif (decide (g3=(x1.size:Int))) then
 zes fuel x1 x2 g1 g2 g3 true
 else
 (bidx x1 g3).bind fun v7 =>
 zes fuel x1 x2 g1 g2 g3 (decide (v7=x2)))
 else
 some g1)
end
def zh0 (fuel:Nat) (x1:ByteArray) (x2:Int):Option (List ByteArray) :=
 zdw fuel x1 x2 ([]:List ByteArray) 0 0
mutual
def zef (fuel:Nat) (x1:ByteArray) (x2:Int) (g6:Int):Option ((List Int) × Int) :=
 match fuel with
 | 0=>none
 | fuel+1 =>
 (bif (decide (g6 < (x1.size:Int))) then
 (bidx x1 g6).bind fun v9 =>
 (bif (decide (v9≠125)) then
 zef fuel x1 x2 (w64 (g6+1))
 else
 zeh fuel x1 x2 g6)
 else
 zeh fuel x1 x2 g6)
def zeg (fuel:Nat) (g11:Int) (v15:(List ByteArray)) (g16:(List Int)) (g17:Int) (g20:Bool):Option ((List Int) × Int) :=
 match fuel with
 | 0=>none
 | fuel+1 =>
 (bif g20 then
 (idx v15 g17).bind fun v23 =>
 (zg3 fuel v23).bind fun v24 =>
 (bif (!v24.2) then
 some (g16,(-1))
 else
 chk (decide ((g16.length+[v24.1].length)*8≤140737488355328)) <|
 zee fuel g11 v15 (g16++[v24.1]) (w64 (g17+1)))
 else
 some (g16,(w64 (g11+1))))
def zee (fuel:Nat) (g11:Int) (v15:(List ByteArray)) (g16:(List Int)) (g17:Int):Option ((List Int) × Int) :=
 match fuel with
 | 0=>none
 | fuel+1 =>
 (bif (decide (g17 < (v15.length:Int))) then
 zeg fuel g11 v15 g16 g17 (decide (g17≤24))
 else
 zeg fuel g11 v15 g16 g17 false)
def zeh (fuel:Nat) (x1:ByteArray) (x2:Int) (g11:Int):Option ((List Int) × Int) :=
 match fuel with
 | 0=>none
 | fuel+1 =>
 (bif (decide (g11=(x1.size:Int))) then
 some (([]:List Int),(-1))
 else
 (bsub x1 (w64 (x2+1)) g11).bind fun v14 =>
 (zh0 fuel v14 44).bind fun v15 =>
 zee fuel g11 v15 ([]:List Int) 0)
def zei (fuel:Nat) (x1:ByteArray) (x2:Int) (g3:Bool):Option ((List Int) × Int) :=
 match fuel with
 | 0=>none
 | fuel+1 =>
 (bif g3 then
 some (([]:List Int),x2)
 else
 zef fuel x1 x2 x2)
end
def zhY (fuel:Nat) (x1:ByteArray) (x2:Int):Option ((List Int) × Int) :=
 (bif (decide ((x1.size:Int)≤x2)) then
 zei fuel x1 x2 true
 else
 (bidx x1 x2).bind fun v2 =>
 zei fuel x1 x2 (decide (v2≠123)))
def zhZ (fuel:Nat) (x1:ByteArray) (x2:Int):Option (Form × Int) :=
 (zhX fuel x1 x2).bind fun v1 =>
 (bsub x1 x2 v1).bind fun v2 =>
 (zg3 fuel v2).bind fun v3 =>
 (bif v3.2 then
 some ((Form.mk 2 (⟨#[]⟩:ByteArray) v3.1 ([]:List Int) ([]:List Form)),v1)
 else
 (bif (decide (v2=(⟨#[]⟩:ByteArray))) then
 some ((Form.mk 0 (⟨#[]⟩:ByteArray) 0 ([]:List Int) ([]:List Form)),(-1))
 else
 (zhY fuel x1 v1).bind fun v6 =>
 some ((Form.mk 1 v2 0 v6.1 ([]:List Form)),v6.2)))
mutual
def zgc (fuel:Nat) (x1:ByteArray) (x2:Int) (x3:Int):Option (Form × Int) :=
 match fuel with
 | 0=>none
 | fuel+1 =>
 (zfl fuel x1 x2).bind fun v1 =>
 (bif (decide ((x1.size:Int)≤v1)) then
 zel fuel x1 x3 v1 true
 else
 zel fuel x1 x3 v1 (decide (x3=0)))
def zdv (fuel:Nat) (x1:ByteArray) (x3:Int) (g10:Int) (g11:(List Form)) (g16:Bool):Option (Form × Int) :=
 match fuel with
 | 0=>none
 | fuel+1 =>
 (bif g16 then
 (zgc fuel x1 g10 (w64 (x3-1))).bind fun v19 =>
 (bif (decide (v19.2 < 0)) then
 some ((Form.mk 3 (⟨#[]⟩:ByteArray) 0 ([]:List Int) g11),(-1))
 else
 chk (decide ((g11.length+[v19.1].length)*80≤140737488355328)) <|
 (zfl fuel x1 v19.2).bind fun v22 =>
 zej fuel x1 x3 v22 (g11++[v19.1]))
 else
 zfS fuel x1 g10 g11)
def zej (fuel:Nat) (x1:ByteArray) (x3:Int) (g10:Int) (g11:(List Form)):Option (Form × Int) :=
 match fuel with
 | 0=>none
 | fuel+1 =>
 (bif (decide (g10 < (x1.size:Int))) then
 (bidx x1 g10).bind fun v14 =>
 (bif (decide (v14≠41)) then
 zdv fuel x1 x3 g10 g11 (decide ((g11.length:Int) < 400))
 else
 zdv fuel x1 x3 g10 g11 false)
 else
 zdv fuel x1 x3 g10 g11 false)
def zek (fuel:Nat) (g23:Int) (g24:(List Form)) (g28:Bool):Option (Form × Int) :=
 match fuel with
 | 0=>none
 | fuel+1 =>
 (bif g28 then
 some ((Form.mk 3 (⟨#[]⟩:ByteArray) 0 ([]:List Int) g24),(-1))
 else
 some ((Form.mk 3 (⟨#[]⟩:ByteArray) 0 ([]:List Int) g24),(w64 (g23+1))))
def zfS (fuel:Nat) (x1:ByteArray) (g23:Int) (g24:(List Form)):Option (Form × Int) :=
 match fuel with
 | 0=>none
 | fuel+1 =>
 (bif (decide ((x1.size:Int)≤g23)) then
 zek fuel g23 g24 true
 else
 (bidx x1 g23).bind fun v27 =>
 zek fuel g23 g24 (decide (v27≠41)))
def zel (fuel:Nat) (x1:ByteArray) (x3:Int) (v1:Int) (g3:Bool):Option (Form × Int) :=
 match fuel with
 | 0=>none
 | fuel+1 =>
 (bif g3 then
 some ((Form.mk 0 (⟨#[]⟩:ByteArray) 0 ([]:List Int) ([]:List Form)),(-1))
 else
 (bidx x1 v1).bind fun v6 =>
 (bif (decide (v6≠40)) then
 (zhZ fuel x1 v1).bind fun v8 =>
 some (v8.1,v8.2)
 else
 (zfl fuel x1 (w64 (v1+1))).bind fun v9 =>
 zej fuel x1 x3 v9 ([]:List Form)))
end
def zgT (fuel:Nat) (x1:ByteArray):Option (Form × Bool) :=
 (zgc fuel x1 0 40).bind fun v1 =>
 (bif (decide (v1.2 < 0)) then
 some ((Form.mk 0 (⟨#[]⟩:ByteArray) 0 ([]:List Int) ([]:List Form)),false)
 else
 (zfl fuel x1 v1.2).bind fun v3 =>
 (bif (decide (v3≠(x1.size:Int))) then
 some ((Form.mk 0 (⟨#[]⟩:ByteArray) 0 ([]:List Int) ([]:List Form)),false)
 else
 (zb1 fuel v1.1).bind fun v5 =>
 (bif (!v5) then
 some ((Form.mk 0 (⟨#[]⟩:ByteArray) 0 ([]:List Int) ([]:List Form)),false)
 else
 some (v1.1,true))))
def zdJ (fuel:Nat) (x1:ByteArray):Option Form :=
 (zgT fuel x1).bind fun v1 =>
 some v1.1
mutual
def zcc (fuel:Nat) (x1:Form):Option Form :=
 match fuel with
 | 0=>none
 | fuel+1 =>
 chk (decide ((([]:List Int).length+x1.scopes.length)*8≤140737488355328)) <|
 zcm fuel x1 0 ([]:List Form)
def zcm (fuel:Nat) (x1:Form) (g2:Int) (g3:(List Form)):Option Form :=
 match fuel with
 | 0=>none
 | fuel+1 =>
 (bif (decide (g2 < (x1.kids.length:Int))) then
 (idx x1.kids g2).bind fun v7 =>
 (zcc fuel v7).bind fun v8 =>
 chk (decide ((g3.length+[v8].length)*80≤140737488355328)) <|
 zcm fuel x1 (g2+1) (g3++[v8])
 else
 some (Form.mk x1.kind x1.name x1.n (([]:List Int)++x1.scopes) g3))
end
def zaH (fuel:Nat) (o1:zbY) (x2:(List Int)):Option (Int × zbY) :=
 (z5 fuel o1 (x2.length:Int)).bind fun v1 =>
 (idx x2 v1.1).bind fun v2 =>
 some (v2,v1.2)
def zdl (fuel:Nat) (o1:zbY) (x2:(List ByteArray)):Option (ByteArray × zbY) :=
 (z5 fuel o1 (x2.length:Int)).bind fun v1 =>
 (idx x2 v1.1).bind fun v2 =>
 some (v2,v1.2)
def zav (fuel:Nat) (o1:zbY) (x2:Form):Option (Form × zbY) :=
 match fuel with
 | 0=>none
 | fuel+1 =>
 (zcc fuel x2).bind fun v1 =>
 (bif (decide (0 < (v1.kids.length:Int))) then
 (z5 fuel o1 2).bind fun v3 =>
 (bif (decide (0 < v3.1)) then
 (z5 fuel v3.2 (v1.kids.length:Int)).bind fun v5 =>
 (idx v1.kids v5.1).bind fun v6 =>
 (zav fuel v5.2 v6).bind fun v7 =>
 (idx v1.kids v5.1).bind fun v8 =>
 some ((Form.mk v1.kind v1.name v1.n v1.scopes (v1.kids.set v5.1.toNat v7.1)),v7.2)
 else
 (z5 fuel v3.2 14).bind fun v9 =>
 (bif (decide (v9.1=0)) then
 (zaH fuel v9.2 [0,4,1,3]).bind fun v11 =>
 some ((Form.mk v11.1 v1.name v1.n v1.scopes v1.kids),v11.2)
 else
 (bif (decide (v9.1=1)) then
 (zdl fuel v9.2 [(⟨#[]⟩:ByteArray),(⟨#[65]⟩:ByteArray),(⟨#[116,111,111,108,111,110,103,97,110,97,109,101,49]⟩:ByteArray),(⟨#[122]⟩:ByteArray),(⟨#[120,32,121]⟩:ByteArray)]).bind fun v13 =>
 some ((Form.mk v1.kind v13.1 v1.n v1.scopes v1.kids),v13.2)
 else
 (bif (decide (v9.1=2)) then
 (zaH fuel v9.2 [1000,(-1),5]).bind fun v15 =>
 some ((Form.mk v1.kind v1.name v15.1 v1.scopes v1.kids),v15.2)
 else
 (bif (decide (v9.1=3)) then
 (zaH fuel v9.2 [0,100,1,50]).bind fun v17 =>
 chk (decide ((v1.scopes.length+[v17.1].length)*8≤140737488355328)) <|
 some ((Form.mk v1.kind v1.name v1.n (v1.scopes++[v17.1]) v1.kids),v17.2)
 else
 some (v1,v9.2))))))
 else
 (z5 fuel o1 14).bind fun v19 =>
 (bif (decide (v19.1=0)) then
 (zaH fuel v19.2 [0,4,1,3]).bind fun v21 =>
 some ((Form.mk v21.1 v1.name v1.n v1.scopes v1.kids),v21.2)
 else
 (bif (decide (v19.1=1)) then
 (zdl fuel v19.2 [(⟨#[]⟩:ByteArray),(⟨#[65]⟩:ByteArray),(⟨#[116,111,111,108,111,110,103,97,110,97,109,101,49]⟩:ByteArray),(⟨#[122]⟩:ByteArray),(⟨#[120,32,121]⟩:ByteArray)]).bind fun v23 =>
 some ((Form.mk v1.kind v23.1 v1.n v1.scopes v1.kids),v23.2)
 else
 (bif (decide (v19.1=2)) then
 (zaH fuel v19.2 [1000,(-1),5]).bind fun v25 =>
 some ((Form.mk v1.kind v1.name v25.1 v1.scopes v1.kids),v25.2)
 else
 (bif (decide (v19.1=3)) then
 (zaH fuel v19.2 [0,100,1,50]).bind fun v27 =>
 chk (decide ((v1.scopes.length+[v27.1].length)*8≤140737488355328)) <|
 some ((Form.mk v1.kind v1.name v1.n (v1.scopes++[v27.1]) v1.kids),v27.2)
 else
 some (v1,v19.2))))))
mutual
def zbU (fuel:Nat) (o1:zbY) (x2:Form):Option (Form × zbY) :=
 match fuel with
 | 0=>none
 | fuel+1 =>
 (zcc fuel x2).bind fun v1 =>
 (bif (decide (x2.kind=1)) then
 (z5 fuel o1 ([([]:List Int),[1],[2],[1,2],[1,3],[1,2,3],[99]].length:Int)).bind fun v3 =>
 (idx [([]:List Int),[1],[2],[1,2],[1,3],[1,2,3],[99]] v3.1).bind fun v4 =>
 chk (decide ((([]:List Int).length+v4.length)*8≤140737488355328)) <|
 zct fuel v1 v4 0 v3.2.b v3.2.p v1.kids
 else
 zcs fuel v1 0 o1.b o1.p v1.kids)
def zct (fuel:Nat) (v1:Form) (v4:(List Int)) (g6:Int) (g7:(List Int)) (g8:Int) (g9:(List Form)):Option (Form × zbY) :=
 match fuel with
 | 0=>none
 | fuel+1 =>
 (bif (decide (g6 < (g9.length:Int))) then
 (idx g9 g6).bind fun v13 =>
 (zbU fuel (zbY.mk g7 g8) v13).bind fun v14 =>
 (idx g9 g6).bind fun v15 =>
 zct fuel v1 v4 (g6+1) v14.2.b v14.2.p (g9.set g6.toNat v14.1)
 else
 some ((Form.mk v1.kind v1.name v1.n (([]:List Int)++v4) g9),(zbY.mk g7 g8)))
def zcs (fuel:Nat) (v1:Form) (g16:Int) (g17:(List Int)) (g18:Int) (g19:(List Form)):Option (Form × zbY) :=
 match fuel with
 | 0=>none
 | fuel+1 =>
 (bif (decide (g16 < (g19.length:Int))) then
 (idx g19 g16).bind fun v23 =>
 (zbU fuel (zbY.mk g17 g18) v23).bind fun v24 =>
 (idx g19 g16).bind fun v25 =>
 zcs fuel v1 (g16+1) v24.2.b v24.2.p (g19.set g16.toNat v24.1)
 else
 some ((Form.mk v1.kind v1.name v1.n v1.scopes g19),(zbY.mk g17 g18)))
end
def zdB (fuel:Nat) (x1:(List Int)):Option (List Int) :=
 chk (decide ((([]:List Int).length+x1.length)*8≤140737488355328)) <|
 some (([]:List Int)++x1)
mutual
def zaN (fuel:Nat) (x1:Form):Option Form :=
 match fuel with
 | 0=>none
 | fuel+1 =>
 (zdB fuel x1.scopes).bind fun v1 =>
 zch fuel x1 v1 0 ([]:List Form)
def zch (fuel:Nat) (x1:Form) (v1:(List Int)) (g2:Int) (g3:(List Form)):Option Form :=
 match fuel with
 | 0=>none
 | fuel+1 =>
 (bif (decide (g2 < (x1.kids.length:Int))) then
 (idx x1.kids g2).bind fun v7 =>
 (zaN fuel v7).bind fun v8 =>
 chk (decide ((g3.length+[v8].length)*80≤140737488355328)) <|
 zch fuel x1 v1 (g2+1) (g3++[v8])
 else
 some (Form.mk x1.kind x1.name x1.n v1 g3))
end
def zcV (fuel:Nat) (x1:(List Int)) (x2:(List Int)) (g2:Int):Option Bool :=
 match fuel with
 | 0=>none
 | fuel+1 =>
 (bif (decide (g2 < (x1.length:Int))) then
 (idx x1 g2).bind fun v6 =>
 (idx x2 g2).bind fun v7 =>
 (bif (decide (v6≠v7)) then
 some false
 else
 zcV fuel x1 x2 (g2+1))
 else
 some true)
def zgm (fuel:Nat) (x1:(List Int)) (x2:(List Int)):Option Bool :=
 (bif (decide ((x1.length:Int)≠(x2.length:Int))) then
 some false
 else
 zcV fuel x1 x2 0)
def zgD (fuel:Nat) :Option (List (List ByteArray)) :=
 some [[(⟨#[40,114,117,108,101,115,32,40,41,32,40,40,95,32,97,32,98,41,32,40,108,101,116,32,40,40,116,109,112,32,97,41,41,32,40,108,105,115,116,32,98,32,116,109,112,41,41,41,41]⟩:ByteArray),(⟨#[40,115,119,97,112,32,120,32,121,41]⟩:ByteArray)],[(⟨#[40,114,117,108,101,115,32,40,41,32,40,40,95,41,32,48,41,32,40,40,95,32,97,41,32,97,41,32,40,40,95,32,97,32,98,32,46,46,46,41,32,40,105,102,32,97,32,49,32,40,111,114,32,98,32,46,46,46,41,41,41,41]⟩:ByteArray),(⟨#[40,111,114,32,120,32,121,32,122,41]⟩:ByteArray)],[(⟨#[40,114,117,108,101,115,32,40,41,32,40,40,95,32,40,40,120,32,118,41,32,46,46,46,41,32,98,111,100,121,41,32,40,40,108,97,109,98,100,97,32,40,120,32,46,46,46,41,32,98,111,100,121,41,32,118,32,46,46,46,41,41,41]⟩:ByteArray),(⟨#[40,109,121,108,101,116,32,40,40,112,32,49,41,32,40,113,32,50,41,41,32,40,102,32,112,32,113,41,41]⟩:ByteArray)],[(⟨#[40,114,117,108,101,115,32,40,101,108,115,101,41,32,40,40,95,32,101,108,115,101,32,101,41,32,101,41,32,40,40,95,32,99,32,101,32,114,32,46,46,46,41,32,40,105,102,32,99,32,101,32,40,99,111,110,100,32,114,32,46,46,46,41,41,41,41]⟩:ByteArray),(⟨#[40,99,111,110,100,32,112,32,49,32,101,108,115,101,32,50,41]⟩:ByteArray)],[(⟨#[40,114,117,108,101,115,32,40,41,32,40,40,95,32,40,97,32,98,32,46,46,46,41,32,46,46,46,41,32,40,109,32,40,97,32,46,46,46,41,32,40,40,97,32,98,32,46,46,46,41,32,46,46,46,41,32,49,41,41,41]⟩:ByteArray),(⟨#[40,109,32,40,120,32,49,32,50,41,32,40,121,41,41]⟩:ByteArray)],[(⟨#[40,114,117,108,101,115,32,40,41,32,40,40,95,32,97,32,46,46,46,41,32,40,108,105,115,116,32,97,32,46,46,46,32,97,32,46,46,46,41,41,41]⟩:ByteArray),(⟨#[40,116,119,105,99,101,32,49,32,50,41]⟩:ByteArray)],[(⟨#[40,114,117,108,101,115,32,40,41,32,40,40,95,32,97,32,46,46,46,41,32,40,40,97,32,49,41,32,46,46,46,41,41,32,40,40,95,32,98,41,32,98,41,41]⟩:ByteArray),(⟨#[40,112,97,105,114,115,32,112,32,113,41]⟩:ByteArray)],[(⟨#[40,114,117,108,101,115,32,40,41,32,40,40,95,32,97,41,32,97,41,32,40,40,95,32,53,41,32,54,41,32,40,40,95,32,97,32,98,41,32,98,41,41]⟩:ByteArray),(⟨#[40,107,32,53,41]⟩:ByteArray)]]
mutual
def zb4 (fuel:Nat) (x1:(List Rule)) (x2:(List Form)) (g1:Int) (g4:Bool):Option Bool :=
 match fuel with
 | 0=>none
 | fuel+1 =>
 (bif g4 then
 (idx x1 g1).bind fun v7 =>
 (zc2 fuel v7 x2).bind fun v8 =>
 (bif (!v8) then
 some false
 else
 zb3 fuel x1 x2 (w64 (g1+1)))
 else
 (bif (decide ((x1.length:Int) < 10)) then
 (zdg fuel x2).bind fun v11 =>
 some v11
 else
 some false))
def zb3 (fuel:Nat) (x1:(List Rule)) (x2:(List Form)) (g1:Int):Option Bool :=
 match fuel with
 | 0=>none
 | fuel+1 =>
 (bif (decide (g1 < (x1.length:Int))) then
 zb4 fuel x1 x2 g1 (decide (g1 < 10))
 else
 zb4 fuel x1 x2 g1 false)
end
def zeG (fuel:Nat) (x1:(List Rule)) (x2:(List Form)):Option Bool :=
 zb3 fuel x1 x2 0
mutual
def zbo (fuel:Nat) (x1:Form) (g11:(List Form)) (g12:Int):Option ((List Form) × (List Rule) × Bool) :=
 match fuel with
 | 0=>none
 | fuel+1 =>
 (idx x1.kids 1).bind fun v14 =>
 (bif (decide (g12 < (v14.kids.length:Int))) then
 (idx x1.kids 1).bind fun v17 =>
 (idx v17.kids g12).bind fun v18 =>
 (zcc fuel v18).bind fun v19 =>
 chk (decide ((g11.length+[v19].length)*80≤140737488355328)) <|
 zbo fuel x1 (g11++[v19]) (g12+1)
 else
 zci fuel x1 g11)
def zbp (fuel:Nat) (x1:Form) (g21:(List Form)) (g23:(List Rule)) (g24:Int) (g31:Bool):Option ((List Form) × (List Rule) × Bool) :=
 match fuel with
 | 0=>none
 | fuel+1 =>
 (bif g31 then
 some (([]:List Form),([]:List Rule),false)
 else
 (idx x1.kids g24).bind fun v34 =>
 (idx v34.kids 0).bind fun v35 =>
 (zcc fuel v35).bind fun v36 =>
 (idx x1.kids g24).bind fun v37 =>
 (idx v37.kids 1).bind fun v38 =>
 (zcc fuel v38).bind fun v39 =>
 chk (decide ((g23.length+[(Rule.mk v36 v39)].length)*160≤140737488355328)) <|
 zbn fuel x1 g21 (g23++[(Rule.mk v36 v39)]) (g24+1))
def zbn (fuel:Nat) (x1:Form) (g21:(List Form)) (g23:(List Rule)) (g24:Int):Option ((List Form) × (List Rule) × Bool) :=
 match fuel with
 | 0=>none
 | fuel+1 =>
 (bif (decide (g24 < (x1.kids.length:Int))) then
 (idx x1.kids g24).bind fun v28 =>
 (bif (decide (v28.kind≠3)) then
 zbp fuel x1 g21 g23 g24 true
 else
 (idx x1.kids g24).bind fun v30 =>
 zbp fuel x1 g21 g23 g24 (decide ((v30.kids.length:Int)≠2)))
 else
 zcX fuel g21 g23)
def zcX (fuel:Nat) (g21:(List Form)) (g41:(List Rule)):Option ((List Form) × (List Rule) × Bool) :=
 match fuel with
 | 0=>none
 | fuel+1 =>
 (zeG fuel g41 g21).bind fun v43 =>
 (bif (!v43) then
 some (([]:List Form),([]:List Rule),false)
 else
 some (g21,g41,true))
def zci (fuel:Nat) (x1:Form) (g21:(List Form)):Option ((List Form) × (List Rule) × Bool) :=
 match fuel with
 | 0=>none
 | fuel+1 =>
 zbn fuel x1 g21 ([]:List Rule) 2
def zaw (fuel:Nat) (x1:Form) (g8:Bool):Option ((List Form) × (List Rule) × Bool) :=
 match fuel with
 | 0=>none
 | fuel+1 =>
 (bif g8 then
 some (([]:List Form),([]:List Rule),false)
 else
 zbo fuel x1 ([]:List Form) 0)
end
def zcv (fuel:Nat) (x1:Form):Option ((List Form) × (List Rule) × Bool) :=
 (zb1 fuel x1).bind fun v1 =>
 (bif (!v1) then
 zaw fuel x1 true
 else
 (bif (decide (x1.kind≠3)) then
 zaw fuel x1 true
 else
 (bif (decide ((x1.kids.length:Int) < 2)) then
 zaw fuel x1 true
 else
 (idx x1.kids 0).bind fun v5 =>
 (bif (decide (v5.name≠(⟨#[114,117,108,101,115]⟩:ByteArray))) then
 zaw fuel x1 true
 else
 (idx x1.kids 1).bind fun v7 =>
 zaw fuel x1 (decide (v7.kind≠3))))))
mutual
def zcS (fuel:Nat) (v2:(List (List ByteArray))) (v3:Int × zbY) (g11:(List Int)) (g12:Int) (g25:(List Form)) (g26:(List Rule)):Option ((List Form) × (List Rule) × Form) :=
 match fuel with
 | 0=>none
 | fuel+1 =>
 (idx v2 v3.1).bind fun v28 =>
 (idx v28 1).bind fun v29 =>
 (zdJ fuel v29).bind fun v30 =>
 (z5 fuel (zbY.mk g11 g12) 8).bind fun v31 =>
 (bif (decide (v31.1=0)) then
 (z5 fuel v31.2 (v2.length:Int)).bind fun v33 =>
 (idx v2 v33.1).bind fun v34 =>
 (idx v34 1).bind fun v35 =>
 (zdJ fuel v35).bind fun v36 =>
 some (g25,g26,v36)
 else
 (bif (decide (v31.1=1)) then
 (zav fuel v31.2 v30).bind fun v38 =>
 (zav fuel v38.2 v38.1).bind fun v39 =>
 some (g25,g26,v39.1)
 else
 (bif (decide (v31.1=2)) then
 (zbU fuel v31.2 v30).bind fun v41 =>
 some (g25,g26,v41.1)
 else
 some (g25,g26,v30))))
def zcl (fuel:Nat) (v2:(List (List ByteArray))) (v3:Int × zbY) (g11:(List Int)) (g12:Int) (g13:Int) (g14:ByteArray) (g15:Int) (g16:(List Int)) (g17:(List Form)):Option ((List Form) × (List Rule) × Form) :=
 match fuel with
 | 0=>none
 | fuel+1 =>
 (zcv fuel (Form.mk g13 g14 g15 g16 g17)).bind fun v19 =>
 (bif (!v19.2.2) then
 (idx v2 0).bind fun v21 =>
 (idx v21 0).bind fun v22 =>
 (zdJ fuel v22).bind fun v23 =>
 (zcv fuel v23).bind fun v24 =>
 zcS fuel v2 v3 g11 g12 v24.1 v24.2.1
 else
 zcS fuel v2 v3 g11 g12 v19.1 v19.2.1)
end
def zfj (fuel:Nat) (x1:(List Int)):Option ((List Form) × (List Rule) × Form) :=
 (zeI fuel x1).bind fun v1 =>
 (zgD fuel).bind fun v2 =>
 (z5 fuel v1 (v2.length:Int)).bind fun v3 =>
 (idx v2 v3.1).bind fun v4 =>
 (idx v4 0).bind fun v5 =>
 (zdJ fuel v5).bind fun v6 =>
 (z5 fuel v3.2 10).bind fun v7 =>
 (bif (decide (v7.1=0)) then
 (zav fuel v7.2 v6).bind fun v9 =>
 (zav fuel v9.2 v9.1).bind fun v10 =>
 zcl fuel v2 v3 v10.2.b v10.2.p v10.1.kind v10.1.name v10.1.n v10.1.scopes v10.1.kids
 else
 zcl fuel v2 v3 v7.2.b v7.2.p v6.kind v6.name v6.n v6.scopes v6.kids)
def zds (fuel:Nat) (x1:Bind) (o1:Bind):Option Bool :=
 (bif (decide (x1.name=o1.name)) then
 (zcO fuel x1.scopes o1.scopes).bind fun v2 =>
 some v2
 else
 some false)
def zT (fuel:Nat) (x1:(List Bind)) (o1:Bind) (g1:Int):Option Int :=
 match fuel with
 | 0=>none
 | fuel+1 =>
 (bif (decide (g1 < (x1.length:Int))) then
 (idx x1 g1).bind fun v5 =>
 (zds fuel v5 o1).bind fun v6 =>
 (bif v6 then
 some g1
 else
 zT fuel x1 o1 (g1+1))
 else
 some (-1))
def za4 (fuel:Nat) (x1:(List Bind)) (o1:Bind):Option Int :=
 zT fuel x1 o1 0
def zaK (fuel:Nat) (x1:(List Bind)) (o1:Bind):Option Bool :=
 (za4 fuel x1 o1).bind fun v1 =>
 some (decide (0≤v1))
mutual
def zaZ (fuel:Nat) (x1:(List Bind)) (g1:Int) (v5:Bind) (g11:Bool):Option Bool :=
 match fuel with
 | 0=>none
 | fuel+1 =>
 (bif g11 then
 some false
 else
 (sub x1 0 g1).bind fun v14 =>
 (zaK fuel v14 v5).bind fun v15 =>
 (bif v15 then
 some false
 else
 zbr fuel x1 (g1+1)))
def zbr (fuel:Nat) (x1:(List Bind)) (g1:Int):Option Bool :=
 match fuel with
 | 0=>none
 | fuel+1 =>
 (bif (decide (g1 < (x1.length:Int))) then
 (idx x1 g1).bind fun v5 =>
 (zdx fuel v5.name).bind fun v6 =>
 (bif (!v6) then
 zaZ fuel x1 g1 v5 true
 else
 (zdV fuel v5.scopes).bind fun v8 =>
 (bif (!v8) then
 zaZ fuel x1 g1 v5 true
 else
 (zc3 fuel v5.id 1 999).bind fun v10 =>
 zaZ fuel x1 g1 v5 (!v10)))
 else
 some (decide ((x1.length:Int)≤60)))
end
def zcA (fuel:Nat) (x1:(List Bind)):Option Bool :=
 zbr fuel x1 0
def zey (fuel:Nat) (x1:Rule) (o1:(List Form)):Option Bool :=
 (zeB fuel x1 o1).bind fun v1 =>
 some (!v1)
def z6 (fuel:Nat) (x1:(List Rule)) (o1:(List Form)) (g1:Int):Option Int :=
 match fuel with
 | 0=>none
 | fuel+1 =>
 (bif (decide (g1 < (x1.length:Int))) then
 (idx x1 g1).bind fun v5 =>
 (zey fuel v5 o1).bind fun v6 =>
 (bif v6 then
 some g1
 else
 z6 fuel x1 o1 (g1+1))
 else
 some (-1))
def zbu (fuel:Nat) (x1:(List Rule)) (o1:(List Form)):Option Int :=
 z6 fuel x1 o1 0
def za5 (fuel:Nat) (x1:(List Rule)) (o1:(List Form)):Option Bool :=
 (zbu fuel x1 o1).bind fun v1 =>
 some (decide (0≤v1))
def zeJ (fuel:Nat) (x1:(List Rule)) (x2:(List Form)):Option Bool :=
 (bif (decide ((x1.length:Int)≤9)) then
 (zdi fuel x2).bind fun v2 =>
 (bif v2 then
 (za5 fuel x1 x2).bind fun v4 =>
 some (!v4)
 else
 some false)
 else
 some false)
def zbG (fuel:Nat) (x1:(List Int)) (x2:Int) (g1:Int):Option Int :=
 match fuel with
 | 0=>none
 | fuel+1 =>
 (bif (decide (g1 < (x1.length:Int))) then
 (idx x1 g1).bind fun v5 =>
 (bif (decide (x2=v5)) then
 some g1
 else
 zbG fuel x1 x2 (g1+1))
 else
 some (-1))
def zeV (fuel:Nat) (x1:(List Int)) (x2:Int):Option Int :=
 zbG fuel x1 x2 0
def zcG (fuel:Nat) (x1:(List Int)) (x2:Int):Option Bool :=
 (zeV fuel x1 x2).bind fun v1 =>
 some (decide (0≤v1))
def zcL (fuel:Nat) (x1:Int) (o1:(List Int)):Option Bool :=
 (zcG fuel o1 x1).bind fun v1 =>
 some (!v1)
def zP (fuel:Nat) (x1:(List Int)) (o1:(List Int)) (g1:Int):Option Int :=
 match fuel with
 | 0=>none
 | fuel+1 =>
 (bif (decide (g1 < (x1.length:Int))) then
 (idx x1 g1).bind fun v5 =>
 (zcL fuel v5 o1).bind fun v6 =>
 (bif v6 then
 some g1
 else
 zP fuel x1 o1 (g1+1))
 else
 some (-1))
def zaY (fuel:Nat) (x1:(List Int)) (o1:(List Int)):Option Int :=
 zP fuel x1 o1 0
def zaF (fuel:Nat) (x1:(List Int)) (o1:(List Int)):Option Bool :=
 (zaY fuel x1 o1).bind fun v1 =>
 some (decide (0≤v1))
def zcy (fuel:Nat) (x1:(List Int)) (x2:(List Int)):Option Bool :=
 (zaF fuel x1 x2).bind fun v1 =>
 some (!v1)
mutual
def zcx (fuel:Nat) (x1:(List Bind)) (x2:Form) (g1:(List Int)) (g2:Int) (g9:Bool):Option (List Int) :=
 match fuel with
 | 0=>none
 | fuel+1 =>
 (bif g9 then
 chk (decide ((g1.length+[g2].length)*8≤140737488355328)) <|
 zbQ fuel x1 x2 (g1++[g2]) (g2+1)
 else
 zbQ fuel x1 x2 g1 (g2+1))
def zbQ (fuel:Nat) (x1:(List Bind)) (x2:Form) (g1:(List Int)) (g2:Int):Option (List Int) :=
 match fuel with
 | 0=>none
 | fuel+1 =>
 (bif (decide (g2 < (x1.length:Int))) then
 (idx x1 g2).bind fun v6 =>
 (bif (decide (v6.name=x2.name)) then
 (zcy fuel v6.scopes x2.scopes).bind fun v8 =>
 zcx fuel x1 x2 g1 g2 v8
 else
 zcx fuel x1 x2 g1 g2 false)
 else
 some g1)
end
def zfI (fuel:Nat) (x1:(List Bind)) (x2:Form):Option (List Int) :=
 zbQ fuel x1 x2 ([]:List Int) 0
def zfK (fuel:Nat) (x1:Int) (o1:(List Bind)) (o2:Int):Option Bool :=
 (idx o1 x1).bind fun v1 =>
 (idx o1 o2).bind fun v2 =>
 (zcy fuel v1.scopes v2.scopes).bind fun v3 =>
 some (!v3)
def zad (fuel:Nat) (x1:(List Int)) (o1:(List Bind)) (o2:Int) (g1:Int):Option Int :=
 match fuel with
 | 0=>none
 | fuel+1 =>
 (bif (decide (g1 < (x1.length:Int))) then
 (idx x1 g1).bind fun v5 =>
 (zfK fuel v5 o1 o2).bind fun v6 =>
 (bif v6 then
 some g1
 else
 zad fuel x1 o1 o2 (g1+1))
 else
 some (-1))
def zbR (fuel:Nat) (x1:(List Int)) (o1:(List Bind)) (o2:Int):Option Int :=
 zad fuel x1 o1 o2 0
def zbw (fuel:Nat) (x1:(List Int)) (o1:(List Bind)) (o2:Int):Option Bool :=
 (zbR fuel x1 o1 o2).bind fun v1 =>
 some (decide (0≤v1))
def zcK (fuel:Nat) (x1:(List Bind)) (v1:(List Int)) (g3:Int):Option (Int × Int) :=
 match fuel with
 | 0=>none
 | fuel+1 =>
 (bif (decide (g3 < (v1.length:Int))) then
 (idx v1 g3).bind fun v7 =>
 (zbw fuel v1 x1 v7).bind fun v8 =>
 (bif (!v8) then
 some (v7,1)
 else
 zcK fuel x1 v1 (g3+1))
 else
 some (0,2))
def zgM (fuel:Nat) (x1:(List Bind)) (x2:Form):Option (Int × Int) :=
 (zfI fuel x1 x2).bind fun v1 =>
 (bif (decide ((v1.length:Int)=0)) then
 some (0,0)
 else
 zcK fuel x1 v1 0)
def zcQ (fuel:Nat) (x1:(List Bind)) (x2:Form) (g4:Bool):Option (Int × Int) :=
 match fuel with
 | 0=>none
 | fuel+1 =>
 (bif g4 then
 some (0,0)
 else
 (zgM fuel x1 x2).bind fun v7 =>
 (bif (decide (v7.2≠1)) then
 some (0,v7.2)
 else
 (idx x1 v7.1).bind fun v9 =>
 some (v9.id,1)))
def zdY (fuel:Nat) (x1:(List Bind)) (x2:Form):Option (Int × Int) :=
 (zcA fuel x1).bind fun v1 =>
 (bif (!v1) then
 zcQ fuel x1 x2 true
 else
 (zc4 fuel x2).bind fun v3 =>
 zcQ fuel x1 x2 (!v3))
def zaA (fuel:Nat) (x1:(List Bind)) (x2:Form) (x3:Form) (g6:Bool):Option Bool :=
 match fuel with
 | 0=>none
 | fuel+1 =>
 (bif g6 then
 some false
 else
 (zdY fuel x1 x2).bind fun v9 =>
 (zdY fuel x1 x3).bind fun v10 =>
 (bif (decide (v9.2=1)) then
 (bif (decide (v10.2=1)) then
 (bif (decide (v9.1=v10.1)) then
 some true
 else
 (bif (decide (v9.2=0)) then
 (bif (decide (v10.2=0)) then
 some (decide (x2.name=x3.name))
 else
 some false)
 else
 some false))
 else
 (bif (decide (v9.2=0)) then
 (bif (decide (v10.2=0)) then
 some (decide (x2.name=x3.name))
 else
 some false)
 else
 some false))
 else
 (bif (decide (v9.2=0)) then
 (bif (decide (v10.2=0)) then
 some (decide (x2.name=x3.name))
 else
 some false)
 else
 some false)))
def zc1 (fuel:Nat) (x1:(List Bind)) (x2:Form) (x3:Form):Option Bool :=
 (zcA fuel x1).bind fun v1 =>
 (bif (!v1) then
 zaA fuel x1 x2 x3 true
 else
 (zc4 fuel x2).bind fun v3 =>
 (bif (!v3) then
 zaA fuel x1 x2 x3 true
 else
 (zc4 fuel x3).bind fun v5 =>
 zaA fuel x1 x2 x3 (!v5)))
end Go.Abs
