/- A part of the proof: what the functions that the law calls answer, as pure values. -/
import Derived.Test.YtcebadpiebamdaaGreatKfbd980a3bd19
import Derived.Test.YtcebadpiebamdaaGreatK3c12e1c5a40a
set_option linter.unusedSimpArgs false
set_option linter.unusedVariables false
set_option maxHeartbeats 4000000
namespace Go.Abs
mutual
def zaI (fuel : Nat) (x1 : (List Form)) (x2 : Int) : Option Int :=
 match fuel with
 | 0 => none
 | fuel + 1 =>
 zbv fuel x1 x2 0
def zbv (fuel : Nat) (x1 : (List Form)) (g1 : Int) (g2 : Int) : Option Int :=
 match fuel with
 | 0 => none
 | fuel + 1 =>
 (bif (decide (g2 < (x1.length : Int))) then
 (idx x1 g2).bind fun v6 =>
 (bif (decide (v6.kind ≠ g1)) then
 some (-1)
 else
 (idx x1 g2).bind fun v8 =>
 (za0 fuel (w64 (g1 + 1))).bind fun v9 =>
 (bif (decide (v8.name ≠ v9)) then
 some (-1)
 else
 (idx x1 g2).bind fun v11 =>
 (bif (decide (v11.n ≠ (w64 ((w64 (g1 + 1)) + 1)))) then
 some (-1)
 else
 (idx x1 g2).bind fun v13 =>
 (zc2 fuel v13.scopes (w64 ((w64 ((w64 (g1 + 1)) + 1)) + 1))).bind fun v14 =>
 (bif (decide (v14 < 0)) then
 some (-1)
 else
 (idx x1 g2).bind fun v16 =>
 (zaI fuel v16.kids v14).bind fun v17 =>
 (bif (decide (v17 < 0)) then
 some (-1)
 else
 zbv fuel x1 v17 (g2 + 1))))))
 else
 some g1)
end
def zbs (fuel : Nat) (g1 : Int) (g2 : Int) (g3 : (List Rule)) : Option (Int × (List Rule)) :=
 match fuel with
 | 0 => none
 | fuel + 1 =>
 (bif (decide (g2 < (g3.length : Int))) then
 (idx g3 g2).bind fun v6 =>
 (za0 fuel (w64 (g1 + 1))).bind fun v7 =>
 (idx (g3.set g2.toNat (Rule.mk (Form.mk g1 v6.pattern.name v6.pattern.n v6.pattern.scopes v6.pattern.kids) v6.template)) g2).bind fun v8 =>
 (idx ((g3.set g2.toNat (Rule.mk (Form.mk g1 v6.pattern.name v6.pattern.n v6.pattern.scopes v6.pattern.kids) v6.template)).set g2.toNat (Rule.mk (Form.mk v8.pattern.kind v7 v8.pattern.n v8.pattern.scopes v8.pattern.kids) v8.template)) g2).bind fun v9 =>
 (idx (((g3.set g2.toNat (Rule.mk (Form.mk g1 v6.pattern.name v6.pattern.n v6.pattern.scopes v6.pattern.kids) v6.template)).set g2.toNat (Rule.mk (Form.mk v8.pattern.kind v7 v8.pattern.n v8.pattern.scopes v8.pattern.kids) v8.template)).set g2.toNat (Rule.mk (Form.mk v9.pattern.kind v9.pattern.name (w64 ((w64 (g1 + 1)) + 1)) v9.pattern.scopes v9.pattern.kids) v9.template)) g2).bind fun v10 =>
 (zcu fuel v10.pattern.scopes (w64 ((w64 ((w64 (g1 + 1)) + 1)) + 1))).bind fun v11 =>
 (idx ((((g3.set g2.toNat (Rule.mk (Form.mk g1 v6.pattern.name v6.pattern.n v6.pattern.scopes v6.pattern.kids) v6.template)).set g2.toNat (Rule.mk (Form.mk v8.pattern.kind v7 v8.pattern.n v8.pattern.scopes v8.pattern.kids) v8.template)).set g2.toNat (Rule.mk (Form.mk v9.pattern.kind v9.pattern.name (w64 ((w64 (g1 + 1)) + 1)) v9.pattern.scopes v9.pattern.kids) v9.template)).set g2.toNat (Rule.mk (Form.mk v10.pattern.kind v10.pattern.name v10.pattern.n v11.2 v10.pattern.kids) v10.template)) g2).bind fun v12 =>
 (zaC fuel v12.pattern.kids v11.1).bind fun v13 =>
 (idx (((((g3.set g2.toNat (Rule.mk (Form.mk g1 v6.pattern.name v6.pattern.n v6.pattern.scopes v6.pattern.kids) v6.template)).set g2.toNat (Rule.mk (Form.mk v8.pattern.kind v7 v8.pattern.n v8.pattern.scopes v8.pattern.kids) v8.template)).set g2.toNat (Rule.mk (Form.mk v9.pattern.kind v9.pattern.name (w64 ((w64 (g1 + 1)) + 1)) v9.pattern.scopes v9.pattern.kids) v9.template)).set g2.toNat (Rule.mk (Form.mk v10.pattern.kind v10.pattern.name v10.pattern.n v11.2 v10.pattern.kids) v10.template)).set g2.toNat (Rule.mk (Form.mk v12.pattern.kind v12.pattern.name v12.pattern.n v12.pattern.scopes v13.2) v12.template)) g2).bind fun v14 =>
 (za0 fuel (w64 (v13.1 + 1))).bind fun v15 =>
 (idx ((((((g3.set g2.toNat (Rule.mk (Form.mk g1 v6.pattern.name v6.pattern.n v6.pattern.scopes v6.pattern.kids) v6.template)).set g2.toNat (Rule.mk (Form.mk v8.pattern.kind v7 v8.pattern.n v8.pattern.scopes v8.pattern.kids) v8.template)).set g2.toNat (Rule.mk (Form.mk v9.pattern.kind v9.pattern.name (w64 ((w64 (g1 + 1)) + 1)) v9.pattern.scopes v9.pattern.kids) v9.template)).set g2.toNat (Rule.mk (Form.mk v10.pattern.kind v10.pattern.name v10.pattern.n v11.2 v10.pattern.kids) v10.template)).set g2.toNat (Rule.mk (Form.mk v12.pattern.kind v12.pattern.name v12.pattern.n v12.pattern.scopes v13.2) v12.template)).set g2.toNat (Rule.mk v14.pattern (Form.mk v13.1 v14.template.name v14.template.n v14.template.scopes v14.template.kids))) g2).bind fun v16 =>
 (idx (((((((g3.set g2.toNat (Rule.mk (Form.mk g1 v6.pattern.name v6.pattern.n v6.pattern.scopes v6.pattern.kids) v6.template)).set g2.toNat (Rule.mk (Form.mk v8.pattern.kind v7 v8.pattern.n v8.pattern.scopes v8.pattern.kids) v8.template)).set g2.toNat (Rule.mk (Form.mk v9.pattern.kind v9.pattern.name (w64 ((w64 (g1 + 1)) + 1)) v9.pattern.scopes v9.pattern.kids) v9.template)).set g2.toNat (Rule.mk (Form.mk v10.pattern.kind v10.pattern.name v10.pattern.n v11.2 v10.pattern.kids) v10.template)).set g2.toNat (Rule.mk (Form.mk v12.pattern.kind v12.pattern.name v12.pattern.n v12.pattern.scopes v13.2) v12.template)).set g2.toNat (Rule.mk v14.pattern (Form.mk v13.1 v14.template.name v14.template.n v14.template.scopes v14.template.kids))).set g2.toNat (Rule.mk v16.pattern (Form.mk v16.template.kind v15 v16.template.n v16.template.scopes v16.template.kids))) g2).bind fun v17 =>
 (idx ((((((((g3.set g2.toNat (Rule.mk (Form.mk g1 v6.pattern.name v6.pattern.n v6.pattern.scopes v6.pattern.kids) v6.template)).set g2.toNat (Rule.mk (Form.mk v8.pattern.kind v7 v8.pattern.n v8.pattern.scopes v8.pattern.kids) v8.template)).set g2.toNat (Rule.mk (Form.mk v9.pattern.kind v9.pattern.name (w64 ((w64 (g1 + 1)) + 1)) v9.pattern.scopes v9.pattern.kids) v9.template)).set g2.toNat (Rule.mk (Form.mk v10.pattern.kind v10.pattern.name v10.pattern.n v11.2 v10.pattern.kids) v10.template)).set g2.toNat (Rule.mk (Form.mk v12.pattern.kind v12.pattern.name v12.pattern.n v12.pattern.scopes v13.2) v12.template)).set g2.toNat (Rule.mk v14.pattern (Form.mk v13.1 v14.template.name v14.template.n v14.template.scopes v14.template.kids))).set g2.toNat (Rule.mk v16.pattern (Form.mk v16.template.kind v15 v16.template.n v16.template.scopes v16.template.kids))).set g2.toNat (Rule.mk v17.pattern (Form.mk v17.template.kind v17.template.name (w64 ((w64 (v13.1 + 1)) + 1)) v17.template.scopes v17.template.kids))) g2).bind fun v18 =>
 (zcu fuel v18.template.scopes (w64 ((w64 ((w64 (v13.1 + 1)) + 1)) + 1))).bind fun v19 =>
 (idx (((((((((g3.set g2.toNat (Rule.mk (Form.mk g1 v6.pattern.name v6.pattern.n v6.pattern.scopes v6.pattern.kids) v6.template)).set g2.toNat (Rule.mk (Form.mk v8.pattern.kind v7 v8.pattern.n v8.pattern.scopes v8.pattern.kids) v8.template)).set g2.toNat (Rule.mk (Form.mk v9.pattern.kind v9.pattern.name (w64 ((w64 (g1 + 1)) + 1)) v9.pattern.scopes v9.pattern.kids) v9.template)).set g2.toNat (Rule.mk (Form.mk v10.pattern.kind v10.pattern.name v10.pattern.n v11.2 v10.pattern.kids) v10.template)).set g2.toNat (Rule.mk (Form.mk v12.pattern.kind v12.pattern.name v12.pattern.n v12.pattern.scopes v13.2) v12.template)).set g2.toNat (Rule.mk v14.pattern (Form.mk v13.1 v14.template.name v14.template.n v14.template.scopes v14.template.kids))).set g2.toNat (Rule.mk v16.pattern (Form.mk v16.template.kind v15 v16.template.n v16.template.scopes v16.template.kids))).set g2.toNat (Rule.mk v17.pattern (Form.mk v17.template.kind v17.template.name (w64 ((w64 (v13.1 + 1)) + 1)) v17.template.scopes v17.template.kids))).set g2.toNat (Rule.mk v18.pattern (Form.mk v18.template.kind v18.template.name v18.template.n v19.2 v18.template.kids))) g2).bind fun v20 =>
 (zaC fuel v20.template.kids v19.1).bind fun v21 =>
 zbs fuel  v21.1 (w64 (g2 + 1)) ((((((((((g3.set g2.toNat (Rule.mk (Form.mk g1 v6.pattern.name v6.pattern.n v6.pattern.scopes v6.pattern.kids) v6.template)).set g2.toNat (Rule.mk (Form.mk v8.pattern.kind v7 v8.pattern.n v8.pattern.scopes v8.pattern.kids) v8.template)).set g2.toNat (Rule.mk (Form.mk v9.pattern.kind v9.pattern.name (w64 ((w64 (g1 + 1)) + 1)) v9.pattern.scopes v9.pattern.kids) v9.template)).set g2.toNat (Rule.mk (Form.mk v10.pattern.kind v10.pattern.name v10.pattern.n v11.2 v10.pattern.kids) v10.template)).set g2.toNat (Rule.mk (Form.mk v12.pattern.kind v12.pattern.name v12.pattern.n v12.pattern.scopes v13.2) v12.template)).set g2.toNat (Rule.mk v14.pattern (Form.mk v13.1 v14.template.name v14.template.n v14.template.scopes v14.template.kids))).set g2.toNat (Rule.mk v16.pattern (Form.mk v16.template.kind v15 v16.template.n v16.template.scopes v16.template.kids))).set g2.toNat (Rule.mk v17.pattern (Form.mk v17.template.kind v17.template.name (w64 ((w64 (v13.1 + 1)) + 1)) v17.template.scopes v17.template.kids))).set g2.toNat (Rule.mk v18.pattern (Form.mk v18.template.kind v18.template.name v18.template.n v19.2 v18.template.kids))).set g2.toNat (Rule.mk v20.pattern (Form.mk v20.template.kind v20.template.name v20.template.n v20.template.scopes v21.2)))
 else
 some (g1, g3))
def zda (fuel : Nat) (x1 : (List Rule)) (x2 : Int) : Option (Int × (List Rule)) :=
 zbs fuel  x2 0 x1
def zbu (fuel : Nat) (x1 : (List Rule)) (g1 : Int) (g2 : Int) : Option Int :=
 match fuel with
 | 0 => none
 | fuel + 1 =>
 (bif (decide (g2 < (x1.length : Int))) then
 (idx x1 g2).bind fun v6 =>
 (bif (decide (v6.pattern.kind ≠ g1)) then
 some (-1)
 else
 (idx x1 g2).bind fun v8 =>
 (za0 fuel (w64 (g1 + 1))).bind fun v9 =>
 (bif (decide (v8.pattern.name ≠ v9)) then
 some (-1)
 else
 (idx x1 g2).bind fun v11 =>
 (bif (decide (v11.pattern.n ≠ (w64 ((w64 (g1 + 1)) + 1)))) then
 some (-1)
 else
 (idx x1 g2).bind fun v13 =>
 (zc2 fuel v13.pattern.scopes (w64 ((w64 ((w64 (g1 + 1)) + 1)) + 1))).bind fun v14 =>
 (bif (decide (v14 < 0)) then
 some (-1)
 else
 (idx x1 g2).bind fun v16 =>
 (zaI fuel v16.pattern.kids v14).bind fun v17 =>
 (bif (decide (v17 < 0)) then
 some (-1)
 else
 (idx x1 g2).bind fun v19 =>
 (bif (decide (v19.template.kind ≠ v17)) then
 some (-1)
 else
 (idx x1 g2).bind fun v21 =>
 (za0 fuel (w64 (v17 + 1))).bind fun v22 =>
 (bif (decide (v21.template.name ≠ v22)) then
 some (-1)
 else
 (idx x1 g2).bind fun v24 =>
 (bif (decide (v24.template.n ≠ (w64 ((w64 (v17 + 1)) + 1)))) then
 some (-1)
 else
 (idx x1 g2).bind fun v26 =>
 (zc2 fuel v26.template.scopes (w64 ((w64 ((w64 (v17 + 1)) + 1)) + 1))).bind fun v27 =>
 (bif (decide (v27 < 0)) then
 some (-1)
 else
 (idx x1 g2).bind fun v29 =>
 (zaI fuel v29.template.kids v27).bind fun v30 =>
 (bif (decide (v30 < 0)) then
 some (-1)
 else
 zbu fuel x1 v30 (g2 + 1)))))))))))
 else
 some g1)
def zed (fuel : Nat) (x1 : (List Rule)) (x2 : Int) : Option Int :=
 zbu fuel x1 x2 0
mutual
def zbp (fuel : Nat) (x1 : zv) (x2 : Int) (v1 : Int) (g7 : Int) (g8 : (List Form)) : Option (zq × Bool) :=
 match fuel with
 | 0 => none
 | fuel + 1 =>
 (idx x1.macros v1).bind fun v10 =>
 (bif (decide (g7 < (v10.literals.length : Int))) then
 (idx x1.macros v1).bind fun v13 =>
 (idx v13.literals g7).bind fun v14 =>
 (zcN fuel v14).bind fun v15 =>
 chk (decide ((g8.length + [v15].length) * 80 ≤ 140737488355328)) <|
 zbp fuel x1 x2 v1 (g7 + 1) (g8 ++ [v15])
 else
 zcZ fuel x1 x2 v1 g8)
def zaX (fuel : Nat) (x1 : zv) (x2 : Int) (v1 : Int) (g17 : (List Form)) (g19 : Int) (g20 : (List Rule)) : Option (zq × Bool) :=
 match fuel with
 | 0 => none
 | fuel + 1 =>
 (idx x1.macros v1).bind fun v22 =>
 (bif (decide (g19 < (v22.rules.length : Int))) then
 (idx x1.macros v1).bind fun v25 =>
 (idx v25.rules g19).bind fun v26 =>
 (zcN fuel v26.pattern).bind fun v27 =>
 (zcN fuel v26.template).bind fun v28 =>
 chk (decide ((g20.length + [(Rule.mk v27 v28)].length) * 160 ≤ 140737488355328)) <|
 zaX fuel x1 x2 v1 g17 (g19 + 1) (g20 ++ [(Rule.mk v27 v28)])
 else
 some ((zq.mk x2 g17 g20), true))
def zcZ (fuel : Nat) (x1 : zv) (x2 : Int) (v1 : Int) (g17 : (List Form)) : Option (zq × Bool) :=
 match fuel with
 | 0 => none
 | fuel + 1 =>
 zaX fuel x1 x2 v1 g17 0 ([] : List Rule)
def zbq (fuel : Nat) (x1 : zv) (x2 : Int) (v1 : Int) (g4 : Bool) : Option (zq × Bool) :=
 match fuel with
 | 0 => none
 | fuel + 1 =>
 (bif g4 then
 some ((zq.mk 0 ([] : List Form) ([] : List Rule)), false)
 else
 zbp fuel x1 x2 v1 0 ([] : List Form))
end
def zd6 (fuel : Nat) (x1 : zv) (x2 : Int) : Option (zq × Bool) :=
 (zej fuel x1 x2).bind fun v1 =>
 (zct fuel x1).bind fun v2 =>
 (bif (!v2) then
 zbq fuel x1 x2 v1 true
 else
 zbq fuel x1 x2 v1 (decide (v1 < 0)))
mutual
def zat (fuel : Nat) (x1 : zq) (g1 : Int) (g2 : (List Form)) : Option zq :=
 match fuel with
 | 0 => none
 | fuel + 1 =>
 (bif (decide (g1 < (x1.literals.length : Int))) then
 (idx x1.literals g1).bind fun v6 =>
 (zai fuel v6).bind fun v7 =>
 chk (decide ((g2.length + [v7].length) * 80 ≤ 140737488355328)) <|
 zat fuel x1 (g1 + 1) (g2 ++ [v7])
 else
 zbw fuel x1 g2)
def zan (fuel : Nat) (x1 : zq) (g9 : (List Form)) (g11 : Int) (g12 : (List Rule)) : Option zq :=
 match fuel with
 | 0 => none
 | fuel + 1 =>
 (bif (decide (g11 < (x1.rules.length : Int))) then
 (idx x1.rules g11).bind fun v16 =>
 (zai fuel v16.pattern).bind fun v17 =>
 (zai fuel v16.template).bind fun v18 =>
 chk (decide ((g12.length + [(Rule.mk v17 v18)].length) * 160 ≤ 140737488355328)) <|
 zan fuel x1 g9 (g11 + 1) (g12 ++ [(Rule.mk v17 v18)])
 else
 some (zq.mk x1.id g9 g12))
def zbw (fuel : Nat) (x1 : zq) (g9 : (List Form)) : Option zq :=
 match fuel with
 | 0 => none
 | fuel + 1 =>
 zan fuel x1 g9 0 ([] : List Rule)
end
def zcF (fuel : Nat) (x1 : zq) : Option zq :=
 zat fuel x1 0 ([] : List Form)
def zau (fuel : Nat) (x1 : zv) (v1 : Int) (g4 : Bool) : Option (zq × Bool) :=
 match fuel with
 | 0 => none
 | fuel + 1 =>
 (bif g4 then
 some ((zq.mk 0 ([] : List Form) ([] : List Rule)), false)
 else
 (idx x1.macros v1).bind fun v7 =>
 (zcF fuel v7).bind fun v8 =>
 some (v8, true))
def zcg (fuel : Nat) (x1 : zv) (x2 : Int) : Option (zq × Bool) :=
 (zen fuel x1.macros x2).bind fun v1 =>
 (zcv fuel x1).bind fun v2 =>
 (bif (!v2) then
 zau fuel x1 v1 true
 else
 zau fuel x1 v1 (decide (v1 < 0)))
def zaZ (fuel : Nat) (g1 : Int) (g2 : Int) (g3 : (List Bind)) : Option (Int × (List Bind)) :=
 match fuel with
 | 0 => none
 | fuel + 1 =>
 (bif (decide (g2 < (g3.length : Int))) then
 (za0 fuel g1).bind fun v6 =>
 (idx g3 g2).bind fun v7 =>
 (idx (g3.set g2.toNat (Bind.mk v6 v7.scopes v7.id)) g2).bind fun v8 =>
 (zcu fuel v8.scopes (w64 (g1 + 1))).bind fun v9 =>
 (idx ((g3.set g2.toNat (Bind.mk v6 v7.scopes v7.id)).set g2.toNat (Bind.mk v8.name v9.2 v8.id)) g2).bind fun v10 =>
 zaZ fuel  (w64 (v9.1 + 1)) (w64 (g2 + 1)) (((g3.set g2.toNat (Bind.mk v6 v7.scopes v7.id)).set g2.toNat (Bind.mk v8.name v9.2 v8.id)).set g2.toNat (Bind.mk v10.name v10.scopes v9.1))
 else
 some (g1, g3))
def zec (fuel : Nat) (x1 : (List Bind)) (x2 : Int) : Option (Int × (List Bind)) :=
 zaZ fuel  x2 0 x1
def za9 (fuel : Nat) (g1 : Int) (g2 : Int) (g3 : (List zq)) : Option (Int × (List zq)) :=
 match fuel with
 | 0 => none
 | fuel + 1 =>
 (bif (decide (g2 < (g3.length : Int))) then
 (idx g3 g2).bind fun v6 =>
 (idx (g3.set g2.toNat (zq.mk g1 v6.literals v6.rules)) g2).bind fun v7 =>
 (zaC fuel v7.literals (w64 (g1 + 1))).bind fun v8 =>
 (idx ((g3.set g2.toNat (zq.mk g1 v6.literals v6.rules)).set g2.toNat (zq.mk v7.id v8.2 v7.rules)) g2).bind fun v9 =>
 (zda fuel v9.rules v8.1).bind fun v10 =>
 za9 fuel  v10.1 (w64 (g2 + 1)) (((g3.set g2.toNat (zq.mk g1 v6.literals v6.rules)).set g2.toNat (zq.mk v7.id v8.2 v7.rules)).set g2.toNat (zq.mk v9.id v9.literals v10.2))
 else
 some (g1, g3))
def zdN (fuel : Nat) (x1 : (List zq)) (x2 : Int) : Option (Int × (List zq)) :=
 za9 fuel  x2 0 x1
def zcK (fuel : Nat) (x1 : zv) (x2 : Int) : Option (Int × (List Bind) × (List zq)) :=
 (zec fuel x1.binds x2).bind fun v1 =>
 (zdN fuel x1.macros v1.1).bind fun v2 =>
 some (v2.1, v1.2, v2.2)
def zeb (fuel : Nat) (x1 : zq) (x2 : Int) : Option (Int × (List Form) × (List Rule)) :=
 (zaC fuel x1.literals x2).bind fun v1 =>
 (zda fuel x1.rules v1.1).bind fun v2 =>
 some (v2.1, v1.2, v2.2)
def zdb (fuel : Nat) (x1 : zq) (x2 : Int) : Option Int :=
 (zaI fuel x1.literals x2).bind fun v1 =>
 (bif (decide (v1 < 0)) then
 some (-1)
 else
 (zed fuel x1.rules v1).bind fun v3 =>
 (bif (decide (v3 < 0)) then
 some (-1)
 else
 some v3))
mutual
def zaV (fuel : Nat) (v6 : zq × Bool) (v22 : Int × (List Form) × (List Rule)) (g30 : Bool) : Option Bool :=
 match fuel with
 | 0 => none
 | fuel + 1 =>
 (bif g30 then
 some false
 else
 (zdb fuel (zq.mk v6.1.id v22.2.1 v22.2.2) 1).bind fun v33 =>
 (bif (decide (v33 < 0)) then
 some false
 else
 (bif (decide (v33 ≠ v22.1)) then
 some false
 else
 some true)))
def zaz (fuel : Nat) (x1 : zv) (x2 : Int) (v4 : zq × Bool) (v6 : zq × Bool) (g19 : Bool) : Option Bool :=
 match fuel with
 | 0 => none
 | fuel + 1 =>
 (bif g19 then
 some false
 else
 (zeb fuel v6.1 1).bind fun v22 =>
 (zdb fuel (zq.mk v6.1.id v22.2.1 v22.2.2) 1).bind fun v23 =>
 (bif (decide (v23 < 0)) then
 some false
 else
 (bif (decide (v23 ≠ v22.1)) then
 some false
 else
 (zaP fuel x1).bind fun v26 =>
 (zcg fuel v26 x2).bind fun v27 =>
 (zcr fuel v27.1 v4.1).bind fun v28 =>
 (bif (!v28) then
 zaV fuel v6 v22 true
 else
 zaV fuel v6 v22 (decide (v27.2 ≠ v4.2))))))
def zaW (fuel : Nat) (x1 : zv) (x2 : Int) (v4 : zq × Bool) (v5 : zv) (v6 : zq × Bool) (g9 : Bool) : Option Bool :=
 match fuel with
 | 0 => none
 | fuel + 1 =>
 (bif g9 then
 some false
 else
 (zaP fuel x1).bind fun v12 =>
 (zdo fuel v5 v12).bind fun v13 =>
 (bif (!v13) then
 some false
 else
 (zcK fuel v5 1).bind fun v15 =>
 (bif (decide (v15.1 < 0)) then
 zaz fuel x1 x2 v4 v6 true
 else
 (zcr fuel v6.1 v4.1).bind fun v17 =>
 (bif (!v17) then
 zaz fuel x1 x2 v4 v6 true
 else
 zaz fuel x1 x2 v4 v6 (decide (v6.2 ≠ v4.2))))))
end
def zcO (fuel : Nat) (x1 : zv) (x2 : Int) : Option Bool :=
 (zdl fuel x1 1048576).bind fun v1 =>
 (bif (decide (v1 < 0)) then
 some true
 else
 (zaP fuel x1).bind fun v3 =>
 (zd6 fuel v3 x2).bind fun v4 =>
 (zaP fuel x1).bind fun v5 =>
 (zcg fuel v5 x2).bind fun v6 =>
 (zcr fuel v6.1 v4.1).bind fun v7 =>
 (bif (!v7) then
 zaW fuel x1 x2 v4 v5 v6 true
 else
 zaW fuel x1 x2 v4 v5 v6 (decide (v6.2 ≠ v4.2))))
end Go.Abs
