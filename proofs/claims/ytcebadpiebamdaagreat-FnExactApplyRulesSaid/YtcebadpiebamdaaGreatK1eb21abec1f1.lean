/- A part of the proof: what the functions that the law calls answer, as pure values. -/
import Derived.Test.YtcebadpiebamdaaGreatK6b40e9d6df31
import Derived.Test.YtcebadpiebamdaaGreatK403ef3ea41a7
import Derived.Test.YtcebadpiebamdaaGreatKfd88efc704ec
import Derived.Test.YtcebadpiebamdaaGreatK331fa2d90bd9
set_option linter.unusedSimpArgs false
set_option linter.unusedVariables false
set_option maxHeartbeats 4000000
namespace Go.Abs
def l9 (fuel:Nat) (x1:(List aI)) (g1:Int) (g2:Int):Option Int :=
 match fuel with
 | 0=>none
 | fuel+1 =>
 (bif (decide (g2 < (x1.length:Int))) then
 (idx x1 g2).bind fun v6 =>
 (bif (decide (v6.pattern.kind≠g1)) then
 some (-1)
 else
 (idx x1 g2).bind fun v8 =>
 (eE fuel (w64 (g1+1))).bind fun v9 =>
 (bif (decide (v8.pattern.name≠v9)) then
 some (-1)
 else
 (idx x1 g2).bind fun v11 =>
 (bif (decide (v11.pattern.n≠(w64 ((w64 (g1+1))+1)))) then
 some (-1)
 else
 (idx x1 g2).bind fun v13 =>
 (jX fuel v13.pattern.scopes (w64 ((w64 ((w64 (g1+1))+1))+1))).bind fun v14 =>
 (bif (decide (v14 < 0)) then
 some (-1)
 else
 (idx x1 g2).bind fun v16 =>
 (dK fuel v16.pattern.kids v14).bind fun v17 =>
 (bif (decide (v17 < 0)) then
 some (-1)
 else
 (idx x1 g2).bind fun v19 =>
 (bif (decide (v19.template.kind≠v17)) then
 some (-1)
 else
 (idx x1 g2).bind fun v21 =>
 (eE fuel (w64 (v17+1))).bind fun v22 =>
 (bif (decide (v21.template.name≠v22)) then
 some (-1)
 else
 (idx x1 g2).bind fun v24 =>
 (bif (decide (v24.template.n≠(w64 ((w64 (v17+1))+1)))) then
 some (-1)
 else
 (idx x1 g2).bind fun v26 =>
 (jX fuel v26.template.scopes (w64 ((w64 ((w64 (v17+1))+1))+1))).bind fun v27 =>
 (bif (decide (v27 < 0)) then
 some (-1)
 else
 (idx x1 g2).bind fun v29 =>
 (dK fuel v29.template.kids v27).bind fun v30 =>
 (bif (decide (v30 < 0)) then
 some (-1)
 else
 l9 fuel x1 v30 (g2+1)))))))))))
 else
 some g1)
def zax (fuel:Nat) (x1:(List aI)) (x2:Int):Option Int :=
 l9 fuel x1 x2 0
def d9 (fuel:Nat) (g1:Int) (g2:Int) (g3:(List aH)):Option (Int × (List aH)) :=
 match fuel with
 | 0=>none
 | fuel+1 =>
 (bif (decide (g2 < (g3.length:Int))) then
 (eE fuel g1).bind fun v6 =>
 (idx g3 g2).bind fun v7 =>
 (idx (g3.set g2.toNat (aH.mk v6 v7.scopes v7.id)) g2).bind fun v8 =>
 (iI fuel v8.scopes (w64 (g1+1))).bind fun v9 =>
 (idx ((g3.set g2.toNat (aH.mk v6 v7.scopes v7.id)).set g2.toNat (aH.mk v8.name v9.2 v8.id)) g2).bind fun v10 =>
 d9 fuel  (w64 (v9.1+1)) (w64 (g2+1)) (((g3.set g2.toNat (aH.mk v6 v7.scopes v7.id)).set g2.toNat (aH.mk v8.name v9.2 v8.id)).set g2.toNat (aH.mk v10.name v10.scopes v9.1))
 else
 some (g1,g3))
def o9 (fuel:Nat) (x1:(List aH)) (x2:Int):Option (Int × (List aH)) :=
 d9 fuel  x2 0 x1
mutual
def dQ (fuel:Nat) (v18:aB × Bool) (v46:Int × (List Int) × (List aB)) (g57:Bool):Option Bool :=
 match fuel with
 | 0=>none
 | fuel+1 =>
 (bif g57 then
 some false
 else
 (nS fuel (aB.mk v18.1.kind v18.1.name v18.1.n v46.2.1 v46.2.2) 1).bind fun v60 =>
 (bif (decide (v60 < 0)) then
 some false
 else
 (bif (decide (v60≠v46.1)) then
 some false
 else
 some true)))
def cF (fuel:Nat) (x1:(List aH)) (x2:(List aI)) (x3:(List aB)) (x4:aB) (v13:aB × Bool) (v18:aB × Bool) (g43:Bool):Option Bool :=
 match fuel with
 | 0=>none
 | fuel+1 =>
 (bif g43 then
 some false
 else
 (nR fuel v18.1 1).bind fun v46 =>
 (nS fuel (aB.mk v18.1.kind v18.1.name v18.1.n v46.2.1 v46.2.2) 1).bind fun v47 =>
 (bif (decide (v47 < 0)) then
 some false
 else
 (bif (decide (v47≠v46.1)) then
 some false
 else
 (iD fuel x1).bind fun v50 =>
 (iC fuel x2).bind fun v51 =>
 (dT fuel x3).bind fun v52 =>
 (cH fuel x4).bind fun v53 =>
 (hY fuel v50 v51 v52 v53).bind fun v54 =>
 (dG fuel v54.1 v13.1).bind fun v55 =>
 (bif (!v55) then
 dQ fuel v18 v46 true
 else
 dQ fuel v18 v46 (decide (v54.2≠v13.2))))))
def dR (fuel:Nat) (x1:(List aH)) (x2:(List aI)) (x3:(List aB)) (x4:aB) (v13:aB × Bool) (v14:(List aH)) (v15:(List aI)) (v16:(List aB)) (v17:aB) (v18:aB × Bool) (g21:Bool):Option Bool :=
 match fuel with
 | 0=>none
 | fuel+1 =>
 (bif g21 then
 some false
 else
 (iD fuel x1).bind fun v24 =>
 (sC fuel v14 v24).bind fun v25 =>
 (bif (!v25) then
 some false
 else
 (iC fuel x2).bind fun v27 =>
 (sB fuel v15 v27).bind fun v28 =>
 (bif (!v28) then
 some false
 else
 (dT fuel x3).bind fun v30 =>
 (jM fuel v16 v30).bind fun v31 =>
 (bif (!v31) then
 some false
 else
 (cH fuel x4).bind fun v33 =>
 (dG fuel v17 v33).bind fun v34 =>
 (bif (!v34) then
 some false
 else
 (o9 fuel v14 1).bind fun v36 =>
 (o8 fuel v15 v36.1).bind fun v37 =>
 (cV fuel v16 v37.1).bind fun v38 =>
 (nR fuel v17 v38.1).bind fun v39 =>
 (bif (decide (v39.1 < 0)) then
 cF fuel x1 x2 x3 x4 v13 v18 true
 else
 (dG fuel v18.1 v13.1).bind fun v41 =>
 (bif (!v41) then
 cF fuel x1 x2 x3 x4 v13 v18 true
 else
 cF fuel x1 x2 x3 x4 v13 v18 (decide (v18.2≠v13.2)))))))))
end
def kM (fuel:Nat) (x1:(List aH)) (x2:(List aI)) (x3:(List aB)) (x4:aB):Option Bool :=
 (sA fuel x1 1048576).bind fun v1 =>
 (bif (decide (v1 < 0)) then
 some true
 else
 (r9 fuel x2 v1).bind fun v3 =>
 (bif (decide (v3 < 0)) then
 some true
 else
 (lN fuel x3 v3).bind fun v5 =>
 (bif (decide (v5 < 0)) then
 some true
 else
 (iG fuel x4 v5).bind fun v7 =>
 (bif (decide (v7 < 0)) then
 some true
 else
 (iD fuel x1).bind fun v9 =>
 (iC fuel x2).bind fun v10 =>
 (dT fuel x3).bind fun v11 =>
 (cH fuel x4).bind fun v12 =>
 (nZ fuel v9 v10 v11 v12).bind fun v13 =>
 (iD fuel x1).bind fun v14 =>
 (iC fuel x2).bind fun v15 =>
 (dT fuel x3).bind fun v16 =>
 (cH fuel x4).bind fun v17 =>
 (hY fuel v14 v15 v16 v17).bind fun v18 =>
 (dG fuel v18.1 v13.1).bind fun v19 =>
 (bif (!v19) then
 dR fuel x1 x2 x3 x4 v13 v14 v15 v16 v17 v18 true
 else
 dR fuel x1 x2 x3 x4 v13 v14 v15 v16 v17 v18 (decide (v18.2≠v13.2)))))))
end Go.Abs
