/- A part of the proof: what the functions that the law calls answer, as pure values. -/
import Derived.Test.YtcllpfmjggkpnaaGreatKcd1b73107f87
import Derived.Test.YtcllpfmjggkpnaaGreatK901cfc26645b
set_option linter.unusedSimpArgs false
set_option linter.unusedVariables false
set_option maxHeartbeats 4000000
namespace Go.Abs
mutual
def zeq (fuel:Nat) (g3:Bool) (g7:ByteArray) (g16:Int) (g17:Int) (g23:Bool):Option (Int × Bool) :=
 match fuel with
 | 0=>none
 | fuel+1 =>
 (bif g23 then
 some (0,false)
 else
 (bidx g7 g17).bind fun v26 =>
 zep fuel g3 g7 (w64 ((w64 (g16*10))+(w64 (w8 (v26-48))))) (w64 (g17+1)))
def zep (fuel:Nat) (g3:Bool) (g7:ByteArray) (g16:Int) (g17:Int):Option (Int × Bool) :=
 match fuel with
 | 0=>none
 | fuel+1 =>
 (bif (decide (g17 < (g7.size:Int))) then
 (bidx g7 g17).bind fun v20 =>
 (bif (decide (v20 < 48)) then
 zeq fuel g3 g7 g16 g17 true
 else
 (bidx g7 g17).bind fun v22 =>
 zeq fuel g3 g7 g16 g17 (decide (57 < v22)))
 else
 (bif g3 then
 some ((w64 (0-g16)),true)
 else
 some (g16,true)))
def zer (fuel:Nat) (g3:Bool) (g7:ByteArray):Option (Int × Bool) :=
 match fuel with
 | 0=>none
 | fuel+1 =>
 zep fuel g3 g7 0 0
def zes (fuel:Nat) (g3:Bool) (g7:ByteArray):Option (Int × Bool) :=
 match fuel with
 | 0=>none
 | fuel+1 =>
 (bif (decide ((g7.size:Int)=0)) then
 some (0,false)
 else
 (bif (decide (17 < (g7.size:Int))) then
 some (0,false)
 else
 (bidx g7 0).bind fun v11 =>
 (bif (decide (v11=48)) then
 (bif (decide (1 < (g7.size:Int))) then
 some (0,false)
 else
 (bif g3 then
 some (0,false)
 else
 zer fuel g3 g7 ))
 else
 zer fuel g3 g7 )))
def zet (fuel:Nat) (x1:ByteArray) (g3:Bool):Option (Int × Bool) :=
 match fuel with
 | 0=>none
 | fuel+1 =>
 (bif g3 then
 (bsub x1 1 (x1.size:Int)).bind fun v6 =>
 zes fuel g3 v6
 else
 zes fuel g3 x1)
end
def zgQ (fuel:Nat) (x1:ByteArray):Option (Int × Bool) :=
 (bif (decide (0 < (x1.size:Int))) then
 (bidx x1 0).bind fun v2 =>
 zet fuel x1 (decide (v2=45))
 else
 zet fuel x1 false)
mutual
def zeu (fuel:Nat) (x1:ByteArray) (x2:Int) (g1:(List ByteArray)) (g2:Int) (g3:Int) (g8:Bool):Option (List ByteArray) :=
 match fuel with
 | 0=>none
 | fuel+1 =>
 (bif g8 then
 (bsub x1 g2 g3).bind fun v11 =>
 chk (decide ((g1.length+[v11].length)*16≤140737488355328)) <|
 zdD fuel x1 x2 (g1++[v11]) (w64 (g3+1)) (w64 (g3+1))
 else
 zdD fuel x1 x2 g1 g2 (w64 (g3+1)))
def zdD (fuel:Nat) (x1:ByteArray) (x2:Int) (g1:(List ByteArray)) (g2:Int) (g3:Int):Option (List ByteArray) :=
 match fuel with
 | 0=>none
 | fuel+1 =>
 (bif (decide (g3≤(x1.size:Int))) then
 (bif (decide (g3=(x1.size:Int))) then
 zeu fuel x1 x2 g1 g2 g3 true
 else
 (bidx x1 g3).bind fun v7 =>
 zeu fuel x1 x2 g1 g2 g3 (decide (v7=x2)))
 else
 some g1)
end
def zhM (fuel:Nat) (x1:ByteArray) (x2:Int):Option (List ByteArray) :=
 zdD fuel x1 x2 ([]:List ByteArray) 0 0
mutual
def zei (fuel:Nat) (x1:ByteArray) (x2:Int) (g6:Int):Option ((List Int) × Int) :=
 match fuel with
 | 0=>none
 | fuel+1 =>
 (bif (decide (g6 < (x1.size:Int))) then
 (bidx x1 g6).bind fun v9 =>
 (bif (decide (v9≠125)) then
 zei fuel x1 x2 (w64 (g6+1))
 else
 zek fuel x1 x2 g6)
 else
 zek fuel x1 x2 g6)
def zej (fuel:Nat) (g11:Int) (v15:(List ByteArray)) (g16:(List Int)) (g17:Int) (g20:Bool):Option ((List Int) × Int) :=
 match fuel with
 | 0=>none
 | fuel+1 =>
 (bif g20 then
 (idx v15 g17).bind fun v23 =>
 (zgQ fuel v23).bind fun v24 =>
 (bif (!v24.2) then
 some (g16,(-1))
 else
 chk (decide ((g16.length+[v24.1].length)*8≤140737488355328)) <|
 zeh fuel g11 v15 (g16++[v24.1]) (w64 (g17+1)))
 else
 some (g16,(w64 (g11+1))))
def zeh (fuel:Nat) (g11:Int) (v15:(List ByteArray)) (g16:(List Int)) (g17:Int):Option ((List Int) × Int) :=
 match fuel with
 | 0=>none
 | fuel+1 =>
 (bif (decide (g17 < (v15.length:Int))) then
 zej fuel g11 v15 g16 g17 (decide (g17≤24))
 else
 zej fuel g11 v15 g16 g17 false)
def zek (fuel:Nat) (x1:ByteArray) (x2:Int) (g11:Int):Option ((List Int) × Int) :=
 match fuel with
 | 0=>none
 | fuel+1 =>
 (bif (decide (g11=(x1.size:Int))) then
 some (([]:List Int),(-1))
 else
 (bsub x1 (w64 (x2+1)) g11).bind fun v14 =>
 (zhM fuel v14 44).bind fun v15 =>
 zeh fuel g11 v15 ([]:List Int) 0)
def zel (fuel:Nat) (x1:ByteArray) (x2:Int) (g3:Bool):Option ((List Int) × Int) :=
 match fuel with
 | 0=>none
 | fuel+1 =>
 (bif g3 then
 some (([]:List Int),x2)
 else
 zei fuel x1 x2 x2)
end
def zhK (fuel:Nat) (x1:ByteArray) (x2:Int):Option ((List Int) × Int) :=
 (bif (decide ((x1.size:Int)≤x2)) then
 zel fuel x1 x2 true
 else
 (bidx x1 x2).bind fun v2 =>
 zel fuel x1 x2 (decide (v2≠123)))
def zhL (fuel:Nat) (x1:ByteArray) (x2:Int):Option (Form × Int) :=
 (zhJ fuel x1 x2).bind fun v1 =>
 (bsub x1 x2 v1).bind fun v2 =>
 (zgQ fuel v2).bind fun v3 =>
 (bif v3.2 then
 some ((Form.mk 2 (⟨#[]⟩:ByteArray) v3.1 ([]:List Int) ([]:List Form)),v1)
 else
 (bif (decide (v2=(⟨#[]⟩:ByteArray))) then
 some ((Form.mk 0 (⟨#[]⟩:ByteArray) 0 ([]:List Int) ([]:List Form)),(-1))
 else
 (zhK fuel x1 v1).bind fun v6 =>
 some ((Form.mk 1 v2 0 v6.1 ([]:List Form)),v6.2)))
mutual
def zf3 (fuel:Nat) (x1:ByteArray) (x2:Int) (x3:Int):Option (Form × Int) :=
 match fuel with
 | 0=>none
 | fuel+1 =>
 (zfb fuel x1 x2).bind fun v1 =>
 (bif (decide ((x1.size:Int)≤v1)) then
 zeo fuel x1 x3 v1 true
 else
 zeo fuel x1 x3 v1 (decide (x3=0)))
def zdC (fuel:Nat) (x1:ByteArray) (x3:Int) (g10:Int) (g11:(List Form)) (g16:Bool):Option (Form × Int) :=
 match fuel with
 | 0=>none
 | fuel+1 =>
 (bif g16 then
 (zf3 fuel x1 g10 (w64 (x3-1))).bind fun v19 =>
 (bif (decide (v19.2 < 0)) then
 some ((Form.mk 3 (⟨#[]⟩:ByteArray) 0 ([]:List Int) g11),(-1))
 else
 chk (decide ((g11.length+[v19.1].length)*80≤140737488355328)) <|
 (zfb fuel x1 v19.2).bind fun v22 =>
 zem fuel x1 x3 v22 (g11++[v19.1]))
 else
 zfB fuel x1 g10 g11)
def zem (fuel:Nat) (x1:ByteArray) (x3:Int) (g10:Int) (g11:(List Form)):Option (Form × Int) :=
 match fuel with
 | 0=>none
 | fuel+1 =>
 (bif (decide (g10 < (x1.size:Int))) then
 (bidx x1 g10).bind fun v14 =>
 (bif (decide (v14≠41)) then
 zdC fuel x1 x3 g10 g11 (decide ((g11.length:Int) < 400))
 else
 zdC fuel x1 x3 g10 g11 false)
 else
 zdC fuel x1 x3 g10 g11 false)
def zen (fuel:Nat) (g23:Int) (g24:(List Form)) (g28:Bool):Option (Form × Int) :=
 match fuel with
 | 0=>none
 | fuel+1 =>
 (bif g28 then
 some ((Form.mk 3 (⟨#[]⟩:ByteArray) 0 ([]:List Int) g24),(-1))
 else
 some ((Form.mk 3 (⟨#[]⟩:ByteArray) 0 ([]:List Int) g24),(w64 (g23+1))))
def zfB (fuel:Nat) (x1:ByteArray) (g23:Int) (g24:(List Form)):Option (Form × Int) :=
 match fuel with
 | 0=>none
 | fuel+1 =>
 (bif (decide ((x1.size:Int)≤g23)) then
 zen fuel g23 g24 true
 else
 (bidx x1 g23).bind fun v27 =>
 zen fuel g23 g24 (decide (v27≠41)))
def zeo (fuel:Nat) (x1:ByteArray) (x3:Int) (v1:Int) (g3:Bool):Option (Form × Int) :=
 match fuel with
 | 0=>none
 | fuel+1 =>
 (bif g3 then
 some ((Form.mk 0 (⟨#[]⟩:ByteArray) 0 ([]:List Int) ([]:List Form)),(-1))
 else
 (bidx x1 v1).bind fun v6 =>
 (bif (decide (v6≠40)) then
 (zhL fuel x1 v1).bind fun v8 =>
 some (v8.1,v8.2)
 else
 (zfb fuel x1 (w64 (v1+1))).bind fun v9 =>
 zem fuel x1 x3 v9 ([]:List Form)))
end
def zgF (fuel:Nat) (x1:ByteArray):Option (Form × Bool) :=
 (zf3 fuel x1 0 40).bind fun v1 =>
 (bif (decide (v1.2 < 0)) then
 some ((Form.mk 0 (⟨#[]⟩:ByteArray) 0 ([]:List Int) ([]:List Form)),false)
 else
 (zfb fuel x1 v1.2).bind fun v3 =>
 (bif (decide (v3≠(x1.size:Int))) then
 some ((Form.mk 0 (⟨#[]⟩:ByteArray) 0 ([]:List Int) ([]:List Form)),false)
 else
 (zaF fuel v1.1).bind fun v5 =>
 (bif (!v5) then
 some ((Form.mk 0 (⟨#[]⟩:ByteArray) 0 ([]:List Int) ([]:List Form)),false)
 else
 some (v1.1,true))))
def zdg (fuel:Nat) (x1:ByteArray):Option Form :=
 (zgF fuel x1).bind fun v1 =>
 some v1.1
def zeb (fuel:Nat) (x1:ByteArray):Option Form :=
 some (Form.mk 1 x1 0 ([]:List Int) ([]:List Form))
mutual
def za4 (fuel:Nat) (x1:Form):Option Form :=
 match fuel with
 | 0=>none
 | fuel+1 =>
 chk (decide ((([]:List Int).length+x1.scopes.length)*8≤140737488355328)) <|
 zcv fuel x1 0 ([]:List Form)
def zcv (fuel:Nat) (x1:Form) (g2:Int) (g3:(List Form)):Option Form :=
 match fuel with
 | 0=>none
 | fuel+1 =>
 (bif (decide (g2 < (x1.kids.length:Int))) then
 (idx x1.kids g2).bind fun v7 =>
 (za4 fuel v7).bind fun v8 =>
 chk (decide ((g3.length+[v8].length)*80≤140737488355328)) <|
 zcv fuel x1 (g2+1) (g3++[v8])
 else
 some (Form.mk x1.kind x1.name x1.n (([]:List Int)++x1.scopes) g3))
end
def zaq (fuel:Nat) (o1:zba) (x2:(List Int)):Option (Int × zba) :=
 (zL fuel o1 (x2.length:Int)).bind fun v1 =>
 (idx x2 v1.1).bind fun v2 =>
 some (v2,v1.2)
def zbs (fuel:Nat) (o1:zba) (x2:(List ByteArray)):Option (ByteArray × zba) :=
 (zL fuel o1 (x2.length:Int)).bind fun v1 =>
 (idx x2 v1.1).bind fun v2 =>
 some (v2,v1.2)
def zao (fuel:Nat) (o1:zba) (x2:Form):Option (Form × zba) :=
 match fuel with
 | 0=>none
 | fuel+1 =>
 (za4 fuel x2).bind fun v1 =>
 (bif (decide (0 < (v1.kids.length:Int))) then
 (zL fuel o1 2).bind fun v3 =>
 (bif (decide (0 < v3.1)) then
 (zL fuel v3.2 (v1.kids.length:Int)).bind fun v5 =>
 (idx v1.kids v5.1).bind fun v6 =>
 (zao fuel v5.2 v6).bind fun v7 =>
 (idx v1.kids v5.1).bind fun v8 =>
 some ((Form.mk v1.kind v1.name v1.n v1.scopes (v1.kids.set v5.1.toNat v7.1)),v7.2)
 else
 (zL fuel v3.2 14).bind fun v9 =>
 (bif (decide (v9.1=0)) then
 (zaq fuel v9.2 [0,4,1,3]).bind fun v11 =>
 some ((Form.mk v11.1 v1.name v1.n v1.scopes v1.kids),v11.2)
 else
 (bif (decide (v9.1=1)) then
 (zbs fuel v9.2 [(⟨#[]⟩:ByteArray),(⟨#[65]⟩:ByteArray),(⟨#[116,111,111,108,111,110,103,97,110,97,109,101,49]⟩:ByteArray),(⟨#[122]⟩:ByteArray),(⟨#[120,32,121]⟩:ByteArray)]).bind fun v13 =>
 some ((Form.mk v1.kind v13.1 v1.n v1.scopes v1.kids),v13.2)
 else
 (bif (decide (v9.1=2)) then
 (zaq fuel v9.2 [1000,(-1),5]).bind fun v15 =>
 some ((Form.mk v1.kind v1.name v15.1 v1.scopes v1.kids),v15.2)
 else
 (bif (decide (v9.1=3)) then
 (zaq fuel v9.2 [0,100,1,50]).bind fun v17 =>
 chk (decide ((v1.scopes.length+[v17.1].length)*8≤140737488355328)) <|
 some ((Form.mk v1.kind v1.name v1.n (v1.scopes++[v17.1]) v1.kids),v17.2)
 else
 some (v1,v9.2))))))
 else
 (zL fuel o1 14).bind fun v19 =>
 (bif (decide (v19.1=0)) then
 (zaq fuel v19.2 [0,4,1,3]).bind fun v21 =>
 some ((Form.mk v21.1 v1.name v1.n v1.scopes v1.kids),v21.2)
 else
 (bif (decide (v19.1=1)) then
 (zbs fuel v19.2 [(⟨#[]⟩:ByteArray),(⟨#[65]⟩:ByteArray),(⟨#[116,111,111,108,111,110,103,97,110,97,109,101,49]⟩:ByteArray),(⟨#[122]⟩:ByteArray),(⟨#[120,32,121]⟩:ByteArray)]).bind fun v23 =>
 some ((Form.mk v1.kind v23.1 v1.n v1.scopes v1.kids),v23.2)
 else
 (bif (decide (v19.1=2)) then
 (zaq fuel v19.2 [1000,(-1),5]).bind fun v25 =>
 some ((Form.mk v1.kind v1.name v25.1 v1.scopes v1.kids),v25.2)
 else
 (bif (decide (v19.1=3)) then
 (zaq fuel v19.2 [0,100,1,50]).bind fun v27 =>
 chk (decide ((v1.scopes.length+[v27.1].length)*8≤140737488355328)) <|
 some ((Form.mk v1.kind v1.name v1.n (v1.scopes++[v27.1]) v1.kids),v27.2)
 else
 some (v1,v19.2))))))
mutual
def zbN (fuel:Nat) (o1:zba) (x2:Form):Option (Form × zba) :=
 match fuel with
 | 0=>none
 | fuel+1 =>
 (za4 fuel x2).bind fun v1 =>
 (bif (decide (x2.kind=1)) then
 (zL fuel o1 ([([]:List Int),[1],[2],[1,2],[1,3],[1,2,3],[99]].length:Int)).bind fun v3 =>
 (idx [([]:List Int),[1],[2],[1,2],[1,3],[1,2,3],[99]] v3.1).bind fun v4 =>
 chk (decide ((([]:List Int).length+v4.length)*8≤140737488355328)) <|
 zcC fuel v1 v4 0 v3.2.b v3.2.p v1.kids
 else
 zcB fuel v1 0 o1.b o1.p v1.kids)
def zcC (fuel:Nat) (v1:Form) (v4:(List Int)) (g6:Int) (g7:(List Int)) (g8:Int) (g9:(List Form)):Option (Form × zba) :=
 match fuel with
 | 0=>none
 | fuel+1 =>
 (bif (decide (g6 < (g9.length:Int))) then
 (idx g9 g6).bind fun v13 =>
 (zbN fuel (zba.mk g7 g8) v13).bind fun v14 =>
 (idx g9 g6).bind fun v15 =>
 zcC fuel v1 v4 (g6+1) v14.2.b v14.2.p (g9.set g6.toNat v14.1)
 else
 some ((Form.mk v1.kind v1.name v1.n (([]:List Int)++v4) g9),(zba.mk g7 g8)))
def zcB (fuel:Nat) (v1:Form) (g16:Int) (g17:(List Int)) (g18:Int) (g19:(List Form)):Option (Form × zba) :=
 match fuel with
 | 0=>none
 | fuel+1 =>
 (bif (decide (g16 < (g19.length:Int))) then
 (idx g19 g16).bind fun v23 =>
 (zbN fuel (zba.mk g17 g18) v23).bind fun v24 =>
 (idx g19 g16).bind fun v25 =>
 zcB fuel v1 (g16+1) v24.2.b v24.2.p (g19.set g16.toNat v24.1)
 else
 some ((Form.mk v1.kind v1.name v1.n v1.scopes g19),(zba.mk g17 g18)))
end
def zcW (fuel:Nat) (x1:(List Int)):Option (List Int) :=
 chk (decide ((([]:List Int).length+x1.length)*8≤140737488355328)) <|
 some (([]:List Int)++x1)
mutual
def zbz (fuel:Nat) (x1:Form):Option Form :=
 match fuel with
 | 0=>none
 | fuel+1 =>
 (zcW fuel x1.scopes).bind fun v1 =>
 zcf fuel x1 v1 0 ([]:List Form)
def zcf (fuel:Nat) (x1:Form) (v1:(List Int)) (g2:Int) (g3:(List Form)):Option Form :=
 match fuel with
 | 0=>none
 | fuel+1 =>
 (bif (decide (g2 < (x1.kids.length:Int))) then
 (idx x1.kids g2).bind fun v7 =>
 (zbz fuel v7).bind fun v8 =>
 chk (decide ((g3.length+[v8].length)*80≤140737488355328)) <|
 zcf fuel x1 v1 (g2+1) (g3++[v8])
 else
 some (Form.mk x1.kind x1.name x1.n v1 g3))
end
mutual
def zbI (fuel:Nat) (x1:Form):Option Form :=
 match fuel with
 | 0=>none
 | fuel+1 =>
 chk (decide ((([]:List Int).length+x1.scopes.length)*8≤140737488355328)) <|
 (zcQ fuel x1.kids).bind fun v2 =>
 some (Form.mk x1.kind x1.name x1.n (([]:List Int)++x1.scopes) v2)
def zcQ (fuel:Nat) (x1:(List Form)):Option (List Form) :=
 match fuel with
 | 0=>none
 | fuel+1 =>
 zaZ fuel x1 ([]:List Form) 0
def zaZ (fuel:Nat) (x1:(List Form)) (g1:(List Form)) (g2:Int):Option (List Form) :=
 match fuel with
 | 0=>none
 | fuel+1 =>
 (bif (decide (g2 < (x1.length:Int))) then
 (idx x1 g2).bind fun v6 =>
 (zbI fuel v6).bind fun v7 =>
 chk (decide ((g1.length+[v7].length)*80≤140737488355328)) <|
 zaZ fuel x1 (g1++[v7]) (g2+1)
 else
 some g1)
end
def zgq (fuel:Nat) :Option (List (List ByteArray)) :=
 some [[(⟨#[40,114,117,108,101,115,32,40,41,32,40,40,95,32,97,32,98,41,32,40,108,101,116,32,40,40,116,109,112,32,97,41,41,32,40,108,105,115,116,32,98,32,116,109,112,41,41,41,41]⟩:ByteArray),(⟨#[40,115,119,97,112,32,120,32,121,41]⟩:ByteArray)],[(⟨#[40,114,117,108,101,115,32,40,41,32,40,40,95,41,32,48,41,32,40,40,95,32,97,41,32,97,41,32,40,40,95,32,97,32,98,32,46,46,46,41,32,40,105,102,32,97,32,49,32,40,111,114,32,98,32,46,46,46,41,41,41,41]⟩:ByteArray),(⟨#[40,111,114,32,120,32,121,32,122,41]⟩:ByteArray)],[(⟨#[40,114,117,108,101,115,32,40,41,32,40,40,95,32,40,40,120,32,118,41,32,46,46,46,41,32,98,111,100,121,41,32,40,40,108,97,109,98,100,97,32,40,120,32,46,46,46,41,32,98,111,100,121,41,32,118,32,46,46,46,41,41,41]⟩:ByteArray),(⟨#[40,109,121,108,101,116,32,40,40,112,32,49,41,32,40,113,32,50,41,41,32,40,102,32,112,32,113,41,41]⟩:ByteArray)],[(⟨#[40,114,117,108,101,115,32,40,101,108,115,101,41,32,40,40,95,32,101,108,115,101,32,101,41,32,101,41,32,40,40,95,32,99,32,101,32,114,32,46,46,46,41,32,40,105,102,32,99,32,101,32,40,99,111,110,100,32,114,32,46,46,46,41,41,41,41]⟩:ByteArray),(⟨#[40,99,111,110,100,32,112,32,49,32,101,108,115,101,32,50,41]⟩:ByteArray)],[(⟨#[40,114,117,108,101,115,32,40,41,32,40,40,95,32,40,97,32,98,32,46,46,46,41,32,46,46,46,41,32,40,109,32,40,97,32,46,46,46,41,32,40,40,97,32,98,32,46,46,46,41,32,46,46,46,41,32,49,41,41,41]⟩:ByteArray),(⟨#[40,109,32,40,120,32,49,32,50,41,32,40,121,41,41]⟩:ByteArray)],[(⟨#[40,114,117,108,101,115,32,40,41,32,40,40,95,32,97,32,46,46,46,41,32,40,108,105,115,116,32,97,32,46,46,46,32,97,32,46,46,46,41,41,41]⟩:ByteArray),(⟨#[40,116,119,105,99,101,32,49,32,50,41]⟩:ByteArray)],[(⟨#[40,114,117,108,101,115,32,40,41,32,40,40,95,32,97,32,46,46,46,41,32,40,40,97,32,49,41,32,46,46,46,41,41,32,40,40,95,32,98,41,32,98,41,41]⟩:ByteArray),(⟨#[40,112,97,105,114,115,32,112,32,113,41]⟩:ByteArray)],[(⟨#[40,114,117,108,101,115,32,40,41,32,40,40,95,32,97,41,32,97,41,32,40,40,95,32,53,41,32,54,41,32,40,40,95,32,97,32,98,41,32,98,41,41]⟩:ByteArray),(⟨#[40,107,32,53,41]⟩:ByteArray)]]
mutual
def zb1 (fuel:Nat) (x1:(List Rule)) (x2:(List Form)) (g1:Int) (g4:Bool):Option Bool :=
 match fuel with
 | 0=>none
 | fuel+1 =>
 (bif g4 then
 (idx x1 g1).bind fun v7 =>
 (zc9 fuel v7 x2).bind fun v8 =>
 (bif (!v8) then
 some false
 else
 zb0 fuel x1 x2 (w64 (g1+1)))
 else
 (bif (decide ((x1.length:Int) < 10)) then
 (zdm fuel x2).bind fun v11 =>
 some v11
 else
 some false))
def zb0 (fuel:Nat) (x1:(List Rule)) (x2:(List Form)) (g1:Int):Option Bool :=
 match fuel with
 | 0=>none
 | fuel+1 =>
 (bif (decide (g1 < (x1.length:Int))) then
 zb1 fuel x1 x2 g1 (decide (g1 < 10))
 else
 zb1 fuel x1 x2 g1 false)
end
def zeD (fuel:Nat) (x1:(List Rule)) (x2:(List Form)):Option Bool :=
 zb0 fuel x1 x2 0
mutual
def zbd (fuel:Nat) (x1:Form) (g11:(List Form)) (g12:Int):Option ((List Form) × (List Rule) × Bool) :=
 match fuel with
 | 0=>none
 | fuel+1 =>
 (idx x1.kids 1).bind fun v14 =>
 (bif (decide (g12 < (v14.kids.length:Int))) then
 (idx x1.kids 1).bind fun v17 =>
 (idx v17.kids g12).bind fun v18 =>
 (za4 fuel v18).bind fun v19 =>
 chk (decide ((g11.length+[v19].length)*80≤140737488355328)) <|
 zbd fuel x1 (g11++[v19]) (g12+1)
 else
 zci fuel x1 g11)
def zbe (fuel:Nat) (x1:Form) (g21:(List Form)) (g23:(List Rule)) (g24:Int) (g31:Bool):Option ((List Form) × (List Rule) × Bool) :=
 match fuel with
 | 0=>none
 | fuel+1 =>
 (bif g31 then
 some (([]:List Form),([]:List Rule),false)
 else
 (idx x1.kids g24).bind fun v34 =>
 (idx v34.kids 0).bind fun v35 =>
 (za4 fuel v35).bind fun v36 =>
 (idx x1.kids g24).bind fun v37 =>
 (idx v37.kids 1).bind fun v38 =>
 (za4 fuel v38).bind fun v39 =>
 chk (decide ((g23.length+[(Rule.mk v36 v39)].length)*160≤140737488355328)) <|
 zbc fuel x1 g21 (g23++[(Rule.mk v36 v39)]) (g24+1))
def zbc (fuel:Nat) (x1:Form) (g21:(List Form)) (g23:(List Rule)) (g24:Int):Option ((List Form) × (List Rule) × Bool) :=
 match fuel with
 | 0=>none
 | fuel+1 =>
 (bif (decide (g24 < (x1.kids.length:Int))) then
 (idx x1.kids g24).bind fun v28 =>
 (bif (decide (v28.kind≠3)) then
 zbe fuel x1 g21 g23 g24 true
 else
 (idx x1.kids g24).bind fun v30 =>
 zbe fuel x1 g21 g23 g24 (decide ((v30.kids.length:Int)≠2)))
 else
 zc7 fuel g21 g23)
def zc7 (fuel:Nat) (g21:(List Form)) (g41:(List Rule)):Option ((List Form) × (List Rule) × Bool) :=
 match fuel with
 | 0=>none
 | fuel+1 =>
 (zeD fuel g41 g21).bind fun v43 =>
 (bif (!v43) then
 some (([]:List Form),([]:List Rule),false)
 else
 some (g21,g41,true))
def zci (fuel:Nat) (x1:Form) (g21:(List Form)):Option ((List Form) × (List Rule) × Bool) :=
 match fuel with
 | 0=>none
 | fuel+1 =>
 zbc fuel x1 g21 ([]:List Rule) 2
def zay (fuel:Nat) (x1:Form) (g8:Bool):Option ((List Form) × (List Rule) × Bool) :=
 match fuel with
 | 0=>none
 | fuel+1 =>
 (bif g8 then
 some (([]:List Form),([]:List Rule),false)
 else
 zbd fuel x1 ([]:List Form) 0)
end
def zcE (fuel:Nat) (x1:Form):Option ((List Form) × (List Rule) × Bool) :=
 (zaF fuel x1).bind fun v1 =>
 (bif (!v1) then
 zay fuel x1 true
 else
 (bif (decide (x1.kind≠3)) then
 zay fuel x1 true
 else
 (bif (decide ((x1.kids.length:Int) < 2)) then
 zay fuel x1 true
 else
 (idx x1.kids 0).bind fun v5 =>
 (bif (decide (v5.name≠(⟨#[114,117,108,101,115]⟩:ByteArray))) then
 zay fuel x1 true
 else
 (idx x1.kids 1).bind fun v7 =>
 zay fuel x1 (decide (v7.kind≠3))))))
mutual
def zcZ (fuel:Nat) (v2:(List (List ByteArray))) (v3:Int × zba) (g11:(List Int)) (g12:Int) (g25:(List Form)) (g26:(List Rule)):Option ((List Form) × (List Rule) × Form) :=
 match fuel with
 | 0=>none
 | fuel+1 =>
 (idx v2 v3.1).bind fun v28 =>
 (idx v28 1).bind fun v29 =>
 (zdg fuel v29).bind fun v30 =>
 (zL fuel (zba.mk g11 g12) 8).bind fun v31 =>
 (bif (decide (v31.1=0)) then
 (zL fuel v31.2 (v2.length:Int)).bind fun v33 =>
 (idx v2 v33.1).bind fun v34 =>
 (idx v34 1).bind fun v35 =>
 (zdg fuel v35).bind fun v36 =>
 some (g25,g26,v36)
 else
 (bif (decide (v31.1=1)) then
 (zao fuel v31.2 v30).bind fun v38 =>
 (zao fuel v38.2 v38.1).bind fun v39 =>
 some (g25,g26,v39.1)
 else
 (bif (decide (v31.1=2)) then
 (zbN fuel v31.2 v30).bind fun v41 =>
 some (g25,g26,v41.1)
 else
 some (g25,g26,v30))))
def zcq (fuel:Nat) (v2:(List (List ByteArray))) (v3:Int × zba) (g11:(List Int)) (g12:Int) (g13:Int) (g14:ByteArray) (g15:Int) (g16:(List Int)) (g17:(List Form)):Option ((List Form) × (List Rule) × Form) :=
 match fuel with
 | 0=>none
 | fuel+1 =>
 (zcE fuel (Form.mk g13 g14 g15 g16 g17)).bind fun v19 =>
 (bif (!v19.2.2) then
 (idx v2 0).bind fun v21 =>
 (idx v21 0).bind fun v22 =>
 (zdg fuel v22).bind fun v23 =>
 (zcE fuel v23).bind fun v24 =>
 zcZ fuel v2 v3 g11 g12 v24.1 v24.2.1
 else
 zcZ fuel v2 v3 g11 g12 v19.1 v19.2.1)
end
def zfY (fuel:Nat) (x1:(List Int)):Option ((List Form) × (List Rule) × Form) :=
 (zeF fuel x1).bind fun v1 =>
 (zgq fuel).bind fun v2 =>
 (zL fuel v1 (v2.length:Int)).bind fun v3 =>
 (idx v2 v3.1).bind fun v4 =>
 (idx v4 0).bind fun v5 =>
 (zdg fuel v5).bind fun v6 =>
 (zL fuel v3.2 10).bind fun v7 =>
 (bif (decide (v7.1=0)) then
 (zao fuel v7.2 v6).bind fun v9 =>
 (zao fuel v9.2 v9.1).bind fun v10 =>
 zcq fuel v2 v3 v10.2.b v10.2.p v10.1.kind v10.1.name v10.1.n v10.1.scopes v10.1.kids
 else
 zcq fuel v2 v3 v7.2.b v7.2.p v6.kind v6.name v6.n v6.scopes v6.kids)
mutual
def zbh (fuel:Nat) (x1:(List Bind)) (g1:Int) (g19:Int) (g28:Bool):Option Bool :=
 match fuel with
 | 0=>none
 | fuel+1 =>
 (bif g28 then
 some false
 else
 zbf fuel x1 g1 (w64 (g19+1)))
def zbf (fuel:Nat) (x1:(List Bind)) (g1:Int) (g19:Int):Option Bool :=
 match fuel with
 | 0=>none
 | fuel+1 =>
 (bif (decide (g19 < g1)) then
 (idx x1 g19).bind fun v22 =>
 (idx x1 g1).bind fun v23 =>
 (bif (decide (v22.name=v23.name)) then
 (idx x1 g19).bind fun v25 =>
 (idx x1 g1).bind fun v26 =>
 (zfc fuel v25.scopes v26.scopes).bind fun v27 =>
 zbh fuel x1 g1 g19 v27
 else
 zbh fuel x1 g1 g19 false)
 else
 zbg fuel x1 (w64 (g1+1)))
def zaK (fuel:Nat) (x1:(List Bind)) (g1:Int) (g16:Bool):Option Bool :=
 match fuel with
 | 0=>none
 | fuel+1 =>
 (bif g16 then
 some false
 else
 zbf fuel x1 g1 0)
def zbi (fuel:Nat) (x1:(List Bind)) (g1:Int) (g4:Bool):Option Bool :=
 match fuel with
 | 0=>none
 | fuel+1 =>
 (bif g4 then
 (idx x1 g1).bind fun v7 =>
 (zdE fuel v7.name).bind fun v8 =>
 (bif (!v8) then
 zaK fuel x1 g1 true
 else
 (idx x1 g1).bind fun v10 =>
 (zdW fuel v10.scopes).bind fun v11 =>
 (bif (!v11) then
 zaK fuel x1 g1 true
 else
 (idx x1 g1).bind fun v13 =>
 (bif (decide (v13.id < 1)) then
 zaK fuel x1 g1 true
 else
 (idx x1 g1).bind fun v15 =>
 zaK fuel x1 g1 (decide (999 < v15.id)))))
 else
 some (decide ((x1.length:Int)≤60)))
def zbg (fuel:Nat) (x1:(List Bind)) (g1:Int):Option Bool :=
 match fuel with
 | 0=>none
 | fuel+1 =>
 (bif (decide (g1 < (x1.length:Int))) then
 zbi fuel x1 g1 (decide (g1≤60))
 else
 zbi fuel x1 g1 false)
end
def zdn (fuel:Nat) (x1:(List Bind)):Option Bool :=
 zbg fuel x1 0
def zdr (fuel:Nat) (x1:(List Int)) (x2:Int) (g1:Int):Option Bool :=
 match fuel with
 | 0=>none
 | fuel+1 =>
 (bif (decide (g1 < (x1.length:Int))) then
 (idx x1 g1).bind fun v5 =>
 (bif (decide (v5=x2)) then
 some true
 else
 zdr fuel x1 x2 (g1+1))
 else
 some false)
def zfS (fuel:Nat) (x1:(List Int)) (x2:Int):Option Bool :=
 zdr fuel x1 x2 0
def zbl (fuel:Nat) (x1:(List Int)) (x2:(List Int)) (g1:Int):Option Bool :=
 match fuel with
 | 0=>none
 | fuel+1 =>
 (bif (decide (g1 < (x1.length:Int))) then
 (idx x1 g1).bind fun v5 =>
 (zfS fuel x2 v5).bind fun v6 =>
 (bif (!v6) then
 some false
 else
 zbl fuel x1 x2 (g1+1))
 else
 some true)
def zcD (fuel:Nat) (x1:(List Int)) (x2:(List Int)):Option Bool :=
 zbl fuel x1 x2 0
mutual
def zbZ (fuel:Nat) (x1:(List Bind)) (x2:Form) (g1:(List Int)) (g2:Int) (g10:Bool):Option (List Int) :=
 match fuel with
 | 0=>none
 | fuel+1 =>
 (bif g10 then
 chk (decide ((g1.length+[g2].length)*8≤140737488355328)) <|
 za3 fuel x1 x2 (g1++[g2]) (g2+1)
 else
 za3 fuel x1 x2 g1 (g2+1))
def za3 (fuel:Nat) (x1:(List Bind)) (x2:Form) (g1:(List Int)) (g2:Int):Option (List Int) :=
 match fuel with
 | 0=>none
 | fuel+1 =>
 (bif (decide (g2 < (x1.length:Int))) then
 (idx x1 g2).bind fun v6 =>
 (bif (decide (v6.name=x2.name)) then
 (idx x1 g2).bind fun v8 =>
 (zcD fuel v8.scopes x2.scopes).bind fun v9 =>
 zbZ fuel x1 x2 g1 g2 v9
 else
 zbZ fuel x1 x2 g1 g2 false)
 else
 some g1)
end
def zee (fuel:Nat) (x1:(List Bind)) (x2:Form):Option (List Int) :=
 za3 fuel x1 x2 ([]:List Int) 0
mutual
def zc2 (fuel:Nat) (x1:(List Bind)) (v1:(List Int)) (g2:Int) (g7:Int) (g16:Bool):Option (Int × Int) :=
 match fuel with
 | 0=>none
 | fuel+1 =>
 zcs fuel x1 v1 g2 g16 (g7+1)
def zcs (fuel:Nat) (x1:(List Bind)) (v1:(List Int)) (g2:Int) (g6:Bool) (g7:Int):Option (Int × Int) :=
 match fuel with
 | 0=>none
 | fuel+1 =>
 (bif (decide (g7 < (v1.length:Int))) then
 (bif g6 then
 (idx v1 g7).bind fun v11 =>
 (idx x1 v11).bind fun v12 =>
 (idx v1 g2).bind fun v13 =>
 (idx x1 v13).bind fun v14 =>
 (zcD fuel v12.scopes v14.scopes).bind fun v15 =>
 zc2 fuel x1 v1 g2 g7 v15
 else
 zc2 fuel x1 v1 g2 g7 false)
 else
 zdB fuel x1 v1 g2 g6)
def zdB (fuel:Nat) (x1:(List Bind)) (v1:(List Int)) (g2:Int) (g18:Bool):Option (Int × Int) :=
 match fuel with
 | 0=>none
 | fuel+1 =>
 (bif g18 then
 (idx v1 g2).bind fun v21 =>
 some (v21,1)
 else
 zct fuel x1 v1 (g2+1))
def zct (fuel:Nat) (x1:(List Bind)) (v1:(List Int)) (g2:Int):Option (Int × Int) :=
 match fuel with
 | 0=>none
 | fuel+1 =>
 (bif (decide (g2 < (v1.length:Int))) then
 zcs fuel x1 v1 g2 true 0
 else
 (bif (decide (0 < (v1.length:Int))) then
 some (0,2)
 else
 some (0,0)))
end
def zfa (fuel:Nat) (x1:(List Bind)) (x2:Form):Option (Int × Int) :=
 (zee fuel x1 x2).bind fun v1 =>
 zct fuel x1 v1 0
def zc1 (fuel:Nat) (x1:(List Bind)) (x2:Form) (x3:Form) (v1:Int × Int) (v2:Int × Int) (g4:Bool):Option Bool :=
 match fuel with
 | 0=>none
 | fuel+1 =>
 (bif g4 then
 some false
 else
 (bif (decide (v1.2=0)) then
 some (decide (x2.name=x3.name))
 else
 (idx x1 v1.1).bind fun v8 =>
 (idx x1 v2.1).bind fun v9 =>
 some (decide (v8.id=v9.id))))
def zf2 (fuel:Nat) (x1:(List Bind)) (x2:Form) (x3:Form):Option Bool :=
 (zfa fuel x1 x2).bind fun v1 =>
 (zfa fuel x1 x3).bind fun v2 =>
 (bif (decide (v1.2≠v2.2)) then
 zc1 fuel x1 x2 x3 v1 v2 true
 else
 zc1 fuel x1 x2 x3 v1 v2 (decide (v1.2=2)))
mutual
def zcN (fuel:Nat) (x3:(List (List Hit))) (v1:(List Form)) (v2:(List Int)) (g3:(List Hit)) (g4:Int) (v8:Form) (v9:Int) (g10:Int) (g11:(List Hit)):Option (List Hit) :=
 match fuel with
 | 0=>none
 | fuel+1 =>
 (bif (decide (g10 < (x3.length:Int))) then
 (idx x3 g10).bind fun v15 =>
 (idx v15 g4).bind fun v16 =>
 chk (decide ((g11.length+[v16].length)*192≤140737488355328)) <|
 zcN fuel x3 v1 v2 g3 g4 v8 v9 (g10+1) (g11++[v16])
 else
 chk (decide ((g3.length+[(Hit.mk v8 (w64 (v9+1)) (Form.mk 0 (⟨#[]⟩:ByteArray) 0 ([]:List Int) ([]:List Form)) g11)].length)*192≤140737488355328)) <|
 zcO fuel x3 v1 v2 (g3++[(Hit.mk v8 (w64 (v9+1)) (Form.mk 0 (⟨#[]⟩:ByteArray) 0 ([]:List Int) ([]:List Form)) g11)]) (w64 (g4+1)))
def zcO (fuel:Nat) (x3:(List (List Hit))) (v1:(List Form)) (v2:(List Int)) (g3:(List Hit)) (g4:Int):Option (List Hit) :=
 match fuel with
 | 0=>none
 | fuel+1 =>
 (bif (decide (g4 < (v1.length:Int))) then
 (idx v1 g4).bind fun v8 =>
 (idx v2 g4).bind fun v9 =>
 zcN fuel x3 v1 v2 g3 g4 v8 v9 0 ([]:List Hit)
 else
 some g3)
end
def zgy (fuel:Nat) (x1:Form) (x2:(List Form)) (x3:(List (List Hit))):Option (List Hit) :=
 (zcH fuel ([]:List Form) x1 x2).bind fun v1 =>
 (zaY fuel ([]:List Int) x1 x2 0).bind fun v2 =>
 zcO fuel x3 v1 v2 ([]:List Hit) 0
mutual
def ze9 (fuel:Nat) (x1:(List Bind)) (x2:(List Form)) (x3:(List Form)) (x4:(List Form)):Option ((List Hit) × Bool) :=
 match fuel with
 | 0=>none
 | fuel+1 =>
 za8 fuel x1 x2 x3 x4 (-1) 0
def za8 (fuel:Nat) (x1:(List Bind)) (x2:(List Form)) (x3:(List Form)) (x4:(List Form)) (g1:Int) (g2:Int):Option ((List Hit) × Bool) :=
 match fuel with
 | 0=>none
 | fuel+1 =>
 (bif (decide ((w64 (g2+1)) < (x2.length:Int))) then
 (idx x2 (w64 (g2+1))).bind fun v5 =>
 (zaV fuel v5).bind fun v6 =>
 (bif v6 then
 za8 fuel x1 x2 x3 x4 g2 (w64 (g2+1))
 else
 za8 fuel x1 x2 x3 x4 g1 (w64 (g2+1)))
 else
 zdA fuel x1 x2 x3 x4 g1)
def zcr (fuel:Nat) (x1:(List Bind)) (x2:(List Form)) (x3:(List Form)) (x4:(List Form)) (g8:Int) (g17:Int) (g18:(List Hit)) (g32:Int) (g33:(List (List Hit))) (g34:Int):Option ((List Hit) × Bool) :=
 match fuel with
 | 0=>none
 | fuel+1 =>
 (bif (decide (0 < g34)) then
 (idx x2 g17).bind fun v37 =>
 (idx x4 g32).bind fun v38 =>
 (zb8 fuel x1 v37 x3 v38).bind fun v39 =>
 (bif (!v39.2) then
 some (g18,false)
 else
 chk (decide ((g33.length+[v39.1].length)*24≤140737488355328)) <|
 zcr fuel x1 x2 x3 x4 g8 g17 g18 (w64 (g32+1)) (g33++[v39.1]) (w64 (g34-1)))
 else
 zdz fuel x1 x2 x3 x4 g8 g17 g18 g32 g33)
def zdz (fuel:Nat) (x1:(List Bind)) (x2:(List Form)) (x3:(List Form)) (x4:(List Form)) (g8:Int) (g17:Int) (g18:(List Hit)) (g42:Int) (g43:(List (List Hit))):Option ((List Hit) × Bool) :=
 match fuel with
 | 0=>none
 | fuel+1 =>
 (idx x2 g17).bind fun v45 =>
 (zgy fuel v45 x3 g43).bind fun v46 =>
 chk (decide ((g18.length+v46.length)*192≤140737488355328)) <|
 zbD fuel x1 x2 x3 x4 g8 (g17+1) (g18++v46) g42
def zbD (fuel:Nat) (x1:(List Bind)) (x2:(List Form)) (x3:(List Form)) (x4:(List Form)) (g8:Int) (g17:Int) (g18:(List Hit)) (g19:Int):Option ((List Hit) × Bool) :=
 match fuel with
 | 0=>none
 | fuel+1 =>
 (bif (decide (g17 < (x2.length:Int))) then
 (idx x2 g17).bind fun v23 =>
 (zaV fuel v23).bind fun v24 =>
 (bif v24 then
 zbD fuel x1 x2 x3 x4 g8 (g17+1) g18 g19
 else
 (bif (decide (g17≠g8)) then
 (idx x2 g17).bind fun v27 =>
 (idx x4 g19).bind fun v28 =>
 (zb8 fuel x1 v27 x3 v28).bind fun v29 =>
 (bif (!v29.2) then
 some (g18,false)
 else
 chk (decide ((g18.length+v29.1.length)*192≤140737488355328)) <|
 zbD fuel x1 x2 x3 x4 g8 (g17+1) (g18++v29.1) (w64 (g19+1)))
 else
 zcr fuel x1 x2 x3 x4 g8 g17 g18 g19 ([]:List (List Hit)) (w64 ((x4.length:Int)-(w64 ((x2.length:Int)-2))))))
 else
 some (g18,true))
def zbT (fuel:Nat) (x1:(List Bind)) (x2:(List Form)) (x3:(List Form)) (x4:(List Form)) (g8:Int):Option ((List Hit) × Bool) :=
 match fuel with
 | 0=>none
 | fuel+1 =>
 zbD fuel x1 x2 x3 x4 g8 0 ([]:List Hit) 0
def zdA (fuel:Nat) (x1:(List Bind)) (x2:(List Form)) (x3:(List Form)) (x4:(List Form)) (g8:Int):Option ((List Hit) × Bool) :=
 match fuel with
 | 0=>none
 | fuel+1 =>
 (bif (decide (g8 < 0)) then
 (bif (decide ((x2.length:Int)≠(x4.length:Int))) then
 some (([]:List Hit),false)
 else
 (bif (decide (0≤g8)) then
 (bif (decide ((x4.length:Int) < (w64 ((x2.length:Int)-2)))) then
 some (([]:List Hit),false)
 else
 zbT fuel x1 x2 x3 x4 g8 )
 else
 zbT fuel x1 x2 x3 x4 g8 ))
 else
 (bif (decide (0≤g8)) then
 (bif (decide ((x4.length:Int) < (w64 ((x2.length:Int)-2)))) then
 some (([]:List Hit),false)
 else
 zbT fuel x1 x2 x3 x4 g8 )
 else
 zbT fuel x1 x2 x3 x4 g8 ))
def zb8 (fuel:Nat) (x1:(List Bind)) (x2:Form) (x3:(List Form)) (x4:Form):Option ((List Hit) × Bool) :=
 match fuel with
 | 0=>none
 | fuel+1 =>
 (bif (decide (x2.kind=1)) then
 (bif (decide (x2.name=(⟨#[95]⟩:ByteArray))) then
 some (([]:List Hit),true)
 else
 (zeU fuel x3 x2).bind fun v3 =>
 (bif v3 then
 (bif (decide (x4.kind=1)) then
 (zf2 fuel x1 x2 x4).bind fun v6 =>
 zcA fuel  v6
 else
 zcA fuel  false)
 else
 chk (decide ((([]:List Hit).length+[(Hit.mk x2 0 x4 ([]:List Hit))].length)*192≤140737488355328)) <|
 some ((([]:List Hit)++[(Hit.mk x2 0 x4 ([]:List Hit))]),true)))
 else
 (bif (decide (x2.kind=2)) then
 (zav fuel x2 x4).bind fun v11 =>
 some (([]:List Hit),v11)
 else
 (bif (decide (x4.kind≠3)) then
 some (([]:List Hit),false)
 else
 (ze9 fuel x1 x2.kids x3 x4.kids).bind fun v13 =>
 some (v13.1,v13.2))))
def zcA (fuel:Nat) (g7:Bool):Option ((List Hit) × Bool) :=
 match fuel with
 | 0=>none
 | fuel+1 =>
 some (([]:List Hit),g7)
end
mutual
def zbV (fuel:Nat) (x1:Hit):Option Hit :=
 match fuel with
 | 0=>none
 | fuel+1 =>
 (za4 fuel x1.name).bind fun v1 =>
 (za4 fuel x1.one).bind fun v2 =>
 zbY fuel x1 v1 v2 0 ([]:List Hit)
def zbY (fuel:Nat) (x1:Hit) (v1:Form) (v2:Form) (g3:Int) (g4:(List Hit)):Option Hit :=
 match fuel with
 | 0=>none
 | fuel+1 =>
 (bif (decide (g3 < (x1.many.length:Int))) then
 (idx x1.many g3).bind fun v8 =>
 (zbV fuel v8).bind fun v9 =>
 chk (decide ((g4.length+[v9].length)*192≤140737488355328)) <|
 zbY fuel x1 v1 v2 (g3+1) (g4++[v9])
 else
 some (Hit.mk v1 x1.depth v2 g4))
end
def zc0 (fuel:Nat) (x1:(List Hit)) (g1:(List Hit)) (g2:Int):Option (List Hit) :=
 match fuel with
 | 0=>none
 | fuel+1 =>
 (bif (decide (g2 < (x1.length:Int))) then
 (idx x1 g2).bind fun v6 =>
 (zbV fuel v6).bind fun v7 =>
 chk (decide ((g1.length+[v7].length)*192≤140737488355328)) <|
 zc0 fuel x1 (g1++[v7]) (g2+1)
 else
 some g1)
def zf1 (fuel:Nat) (x1:(List Hit)):Option (List Hit) :=
 zc0 fuel x1 ([]:List Hit) 0
def zaI (fuel:Nat) (x1:(List Bind)) (x2:Form) (x3:(List Form)) (x4:Form) (g6:Bool):Option ((List Hit) × Bool) :=
 match fuel with
 | 0=>none
 | fuel+1 =>
 (bif g6 then
 some (([]:List Hit),false)
 else
 (zb8 fuel x1 x2 x3 x4).bind fun v9 =>
 (bif (!v9.2) then
 some (([]:List Hit),false)
 else
 (zf1 fuel v9.1).bind fun v11 =>
 some (v11,true)))
def zds (fuel:Nat) (x1:(List Bind)) (x2:Form) (x3:(List Form)) (x4:Form):Option ((List Hit) × Bool) :=
 (zdn fuel x1).bind fun v1 =>
 (bif (!v1) then
 zaI fuel x1 x2 x3 x4 true
 else
 (zgm fuel x2 x3).bind fun v3 =>
 (bif (!v3) then
 zaI fuel x1 x2 x3 x4 true
 else
 (zaF fuel x4).bind fun v5 =>
 zaI fuel x1 x2 x3 x4 (!v5)))
end Go.Abs
