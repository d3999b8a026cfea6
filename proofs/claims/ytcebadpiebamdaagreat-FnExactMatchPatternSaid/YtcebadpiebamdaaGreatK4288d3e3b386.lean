/- A part of the proof: what the functions that the law calls answer, as pure values. -/
import Derived.Test.YtcebadpiebamdaaGreatK075984cc7243
import Derived.Test.YtcebadpiebamdaaGreatK863b9396a6d1
import Derived.Test.YtcebadpiebamdaaGreatK0c09c3f6594f
set_option linter.unusedSimpArgs false
set_option linter.unusedVariables false
set_option maxHeartbeats 4000000
namespace Go.Abs
mutual
def zaL (fuel:Nat) (x1:(List Form)) (x2:Int):Option Int :=
 match fuel with
 | 0=>none
 | fuel+1 =>
 zbw fuel x1 x2 0
def zbw (fuel:Nat) (x1:(List Form)) (g1:Int) (g2:Int):Option Int :=
 match fuel with
 | 0=>none
 | fuel+1 =>
 (bif (decide (g2 < (x1.length:Int))) then
 (idx x1 g2).bind fun v6 =>
 (bif (decide (v6.kind≠g1)) then
 some (-1)
 else
 (idx x1 g2).bind fun v8 =>
 (za1 fuel (w64 (g1+1))).bind fun v9 =>
 (bif (decide (v8.name≠v9)) then
 some (-1)
 else
 (idx x1 g2).bind fun v11 =>
 (bif (decide (v11.n≠(w64 ((w64 (g1+1))+1)))) then
 some (-1)
 else
 (idx x1 g2).bind fun v13 =>
 (zcy fuel v13.scopes (w64 ((w64 ((w64 (g1+1))+1))+1))).bind fun v14 =>
 (bif (decide (v14 < 0)) then
 some (-1)
 else
 (idx x1 g2).bind fun v16 =>
 (zaL fuel v16.kids v14).bind fun v17 =>
 (bif (decide (v17 < 0)) then
 some (-1)
 else
 zbw fuel x1 v17 (g2+1))))))
 else
 some g1)
end
def m_laws_heldForm (fuel:Nat) (x1:Form) (x2:Int):Option Int :=
 (zcy fuel x1.scopes x2).bind fun v1 =>
 (bif (decide (v1 < 0)) then
 some (-1)
 else
 (zaL fuel x1.kids v1).bind fun v3 =>
 (bif (decide (v3 < 0)) then
 some (-1)
 else
 some v3))
mutual
def zbv (fuel:Nat) (x1:(List Hit)) (x2:Int):Option Int :=
 match fuel with
 | 0=>none
 | fuel+1 =>
 zbN fuel x1 x2 0
def zbN (fuel:Nat) (x1:(List Hit)) (g1:Int) (g2:Int):Option Int :=
 match fuel with
 | 0=>none
 | fuel+1 =>
 (bif (decide (g2 < (x1.length:Int))) then
 (idx x1 g2).bind fun v6 =>
 (bif (decide (v6.name.kind≠g1)) then
 some (-1)
 else
 (idx x1 g2).bind fun v8 =>
 (za1 fuel (w64 (g1+1))).bind fun v9 =>
 (bif (decide (v8.name.name≠v9)) then
 some (-1)
 else
 (idx x1 g2).bind fun v11 =>
 (bif (decide (v11.name.n≠(w64 ((w64 (g1+1))+1)))) then
 some (-1)
 else
 (idx x1 g2).bind fun v13 =>
 (zcy fuel v13.name.scopes (w64 ((w64 ((w64 (g1+1))+1))+1))).bind fun v14 =>
 (bif (decide (v14 < 0)) then
 some (-1)
 else
 (idx x1 g2).bind fun v16 =>
 (zaL fuel v16.name.kids v14).bind fun v17 =>
 (bif (decide (v17 < 0)) then
 some (-1)
 else
 (idx x1 g2).bind fun v19 =>
 (bif (decide (v19.depth≠v17)) then
 some (-1)
 else
 (idx x1 g2).bind fun v21 =>
 (bif (decide (v21.one.kind≠(w64 (v17+1)))) then
 some (-1)
 else
 (idx x1 g2).bind fun v23 =>
 (za1 fuel (w64 ((w64 (v17+1))+1))).bind fun v24 =>
 (bif (decide (v23.one.name≠v24)) then
 some (-1)
 else
 (idx x1 g2).bind fun v26 =>
 (bif (decide (v26.one.n≠(w64 ((w64 ((w64 (v17+1))+1))+1)))) then
 some (-1)
 else
 (idx x1 g2).bind fun v28 =>
 (zcy fuel v28.one.scopes (w64 ((w64 ((w64 ((w64 (v17+1))+1))+1))+1))).bind fun v29 =>
 (bif (decide (v29 < 0)) then
 some (-1)
 else
 (idx x1 g2).bind fun v31 =>
 (zaL fuel v31.one.kids v29).bind fun v32 =>
 (bif (decide (v32 < 0)) then
 some (-1)
 else
 (idx x1 g2).bind fun v34 =>
 (zbv fuel v34.many v32).bind fun v35 =>
 (bif (decide (v35 < 0)) then
 some (-1)
 else
 zbN fuel x1 v35 (g2+1)))))))))))))
 else
 some g1)
end
def zaX (fuel:Nat) (g1:Int) (g2:Int) (g3:(List Bind)):Option (Int × (List Bind)) :=
 match fuel with
 | 0=>none
 | fuel+1 =>
 (bif (decide (g2 < (g3.length:Int))) then
 (za1 fuel g1).bind fun v6 =>
 (idx g3 g2).bind fun v7 =>
 (idx (g3.set g2.toNat (Bind.mk v6 v7.scopes v7.id)) g2).bind fun v8 =>
 (zb5 fuel v8.scopes (w64 (g1+1))).bind fun v9 =>
 (idx ((g3.set g2.toNat (Bind.mk v6 v7.scopes v7.id)).set g2.toNat (Bind.mk v8.name v9.2 v8.id)) g2).bind fun v10 =>
 zaX fuel  (w64 (v9.1+1)) (w64 (g2+1)) (((g3.set g2.toNat (Bind.mk v6 v7.scopes v7.id)).set g2.toNat (Bind.mk v8.name v9.2 v8.id)).set g2.toNat (Bind.mk v10.name v10.scopes v9.1))
 else
 some (g1,g3))
def zea (fuel:Nat) (x1:(List Bind)) (x2:Int):Option (Int × (List Bind)) :=
 zaX fuel  x2 0 x1
mutual
def zay (fuel:Nat) (v46:Int × (List Hit)) (g57:Bool):Option Bool :=
 match fuel with
 | 0=>none
 | fuel+1 =>
 (bif g57 then
 some false
 else
 (zbv fuel v46.2 1).bind fun v60 =>
 (bif (decide (v60 < 0)) then
 some false
 else
 (bif (decide (v60≠v46.1)) then
 some false
 else
 some true)))
def zag (fuel:Nat) (x1:(List Bind)) (x2:Form) (x3:(List Form)) (x4:Form) (v13:(List Hit) × Bool) (v18:(List Hit) × Bool) (g43:Bool):Option Bool :=
 match fuel with
 | 0=>none
 | fuel+1 =>
 (bif g43 then
 some false
 else
 (zbS fuel v18.1 1).bind fun v46 =>
 (zbv fuel v46.2 1).bind fun v47 =>
 (bif (decide (v47 < 0)) then
 some false
 else
 (bif (decide (v47≠v46.1)) then
 some false
 else
 (zb2 fuel x1).bind fun v50 =>
 (zaf fuel x2).bind fun v51 =>
 (zaS fuel x3).bind fun v52 =>
 (zaf fuel x4).bind fun v53 =>
 (zan fuel v50 v51 v52 v53).bind fun v54 =>
 (zb6 fuel v54.1 v13.1).bind fun v55 =>
 (bif (!v55) then
 zay fuel v46 true
 else
 zay fuel v46 (decide (v54.2≠v13.2))))))
def zaz (fuel:Nat) (x1:(List Bind)) (x2:Form) (x3:(List Form)) (x4:Form) (v13:(List Hit) × Bool) (v14:(List Bind)) (v15:Form) (v16:(List Form)) (v17:Form) (v18:(List Hit) × Bool) (g21:Bool):Option Bool :=
 match fuel with
 | 0=>none
 | fuel+1 =>
 (bif g21 then
 some false
 else
 (zb2 fuel x1).bind fun v24 =>
 (zeU fuel v14 v24).bind fun v25 =>
 (bif (!v25) then
 some false
 else
 (zaf fuel x2).bind fun v27 =>
 (zbm fuel v15 v27).bind fun v28 =>
 (bif (!v28) then
 some false
 else
 (zaS fuel x3).bind fun v30 =>
 (zct fuel v16 v30).bind fun v31 =>
 (bif (!v31) then
 some false
 else
 (zaf fuel x4).bind fun v33 =>
 (zbm fuel v17 v33).bind fun v34 =>
 (bif (!v34) then
 some false
 else
 (zea fuel v14 1).bind fun v36 =>
 (zdH fuel v15 v36.1).bind fun v37 =>
 (zax fuel v16 v37.1).bind fun v38 =>
 (zdH fuel v17 v38.1).bind fun v39 =>
 (bif (decide (v39.1 < 0)) then
 zag fuel x1 x2 x3 x4 v13 v18 true
 else
 (zb6 fuel v18.1 v13.1).bind fun v41 =>
 (bif (!v41) then
 zag fuel x1 x2 x3 x4 v13 v18 true
 else
 zag fuel x1 x2 x3 x4 v13 v18 (decide (v18.2≠v13.2)))))))))
end
def zci (fuel:Nat) (x1:(List Bind)) (x2:Form) (x3:(List Form)) (x4:Form):Option Bool :=
 (zeT fuel x1 1048576).bind fun v1 =>
 (bif (decide (v1 < 0)) then
 some true
 else
 (zcT fuel x2 v1).bind fun v3 =>
 (bif (decide (v3 < 0)) then
 some true
 else
 (zcY fuel x3 v3).bind fun v5 =>
 (bif (decide (v5 < 0)) then
 some true
 else
 (zcT fuel x4 v5).bind fun v7 =>
 (bif (decide (v7 < 0)) then
 some true
 else
 (zb2 fuel x1).bind fun v9 =>
 (zaf fuel x2).bind fun v10 =>
 (zaS fuel x3).bind fun v11 =>
 (zaf fuel x4).bind fun v12 =>
 (zbr fuel v9 v10 v11 v12).bind fun v13 =>
 (zb2 fuel x1).bind fun v14 =>
 (zaf fuel x2).bind fun v15 =>
 (zaS fuel x3).bind fun v16 =>
 (zaf fuel x4).bind fun v17 =>
 (zan fuel v14 v15 v16 v17).bind fun v18 =>
 (zb6 fuel v18.1 v13.1).bind fun v19 =>
 (bif (!v19) then
 zaz fuel x1 x2 x3 x4 v13 v14 v15 v16 v17 v18 true
 else
 zaz fuel x1 x2 x3 x4 v13 v14 v15 v16 v17 v18 (decide (v18.2≠v13.2)))))))
end Go.Abs
