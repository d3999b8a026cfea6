/- A part of the proof: what the functions that the law calls answer, as pure values. -/
import Derived.Test.YtcebadpiebamdaaGreatK423f84c32d54
import Derived.Test.YtcebadpiebamdaaGreatK3c12e1c5a40a
set_option linter.unusedSimpArgs false
set_option linter.unusedVariables false
set_option maxHeartbeats 4000000
namespace Go.Abs
def zeh (fuel : Nat) (x1 : Rule) (x2 : (List Form)) : Option Bool :=
 (zc3 fuel x1.pattern x2).bind fun v1 =>
 (bif (!v1) then
 some false
 else
 (bif (decide (x1.pattern.kind ≠ 3)) then
 some false
 else
 (bif (decide ((x1.pattern.kids.length : Int) = 0)) then
 some false
 else
 (zdZ fuel x1.pattern x2).bind fun v5 =>
 (zdP fuel x1.template v5.1 v5.2).bind fun v6 =>
 some v6)))
def zeP (fuel : Nat) (x1 : Rule) (x2 : Rule) : Option Bool :=
 (zb8 fuel x1.pattern x2.pattern).bind fun v1 =>
 (bif (!v1) then
 some false
 else
 (zb8 fuel x1.template x2.template).bind fun v3 =>
 (bif (!v3) then
 some false
 else
 some true))
mutual
def zcN (fuel : Nat) (x1 : Form) : Option Form :=
 match fuel with
 | 0 => none
 | fuel + 1 =>
 chk (decide ((([] : List Int).length + x1.scopes.length) * 8 ≤ 140737488355328)) <|
 zcd fuel x1 0 ([] : List Form)
def zcd (fuel : Nat) (x1 : Form) (g2 : Int) (g3 : (List Form)) : Option Form :=
 match fuel with
 | 0 => none
 | fuel + 1 =>
 (bif (decide (g2 < (x1.kids.length : Int))) then
 (idx x1.kids g2).bind fun v7 =>
 (zcN fuel v7).bind fun v8 =>
 chk (decide ((g3.length + [v8].length) * 80 ≤ 140737488355328)) <|
 zcd fuel x1 (g2 + 1) (g3 ++ [v8])
 else
 some (Form.mk x1.kind x1.name x1.n (([] : List Int) ++ x1.scopes) g3))
end
def zb6 (fuel : Nat) (x1 : (List Int)) : Option (List Int) :=
 chk (decide ((([] : List Int).length + x1.length) * 8 ≤ 140737488355328)) <|
 some (([] : List Int) ++ x1)
mutual
def zai (fuel : Nat) (x1 : Form) : Option Form :=
 match fuel with
 | 0 => none
 | fuel + 1 =>
 (zb6 fuel x1.scopes).bind fun v1 =>
 zaR fuel x1 v1 0 ([] : List Form)
def zaR (fuel : Nat) (x1 : Form) (v1 : (List Int)) (g2 : Int) (g3 : (List Form)) : Option Form :=
 match fuel with
 | 0 => none
 | fuel + 1 =>
 (bif (decide (g2 < (x1.kids.length : Int))) then
 (idx x1.kids g2).bind fun v7 =>
 (zai fuel v7).bind fun v8 =>
 chk (decide ((g3.length + [v8].length) * 80 ≤ 140737488355328)) <|
 zaR fuel x1 v1 (g2 + 1) (g3 ++ [v8])
 else
 some (Form.mk x1.kind x1.name x1.n v1 g3))
end
mutual
def zbX (fuel : Nat) (x1 : (List Rule)) (x2 : (List Form)) (g1 : Int) (g4 : Bool) : Option Bool :=
 match fuel with
 | 0 => none
 | fuel + 1 =>
 (bif g4 then
 (idx x1 g1).bind fun v7 =>
 (zcM fuel v7 x2).bind fun v8 =>
 (bif (!v8) then
 some false
 else
 zbW fuel x1 x2 (w64 (g1 + 1)))
 else
 (bif (decide ((x1.length : Int) < 10)) then
 (zcW fuel x2).bind fun v11 =>
 some v11
 else
 some false))
def zbW (fuel : Nat) (x1 : (List Rule)) (x2 : (List Form)) (g1 : Int) : Option Bool :=
 match fuel with
 | 0 => none
 | fuel + 1 =>
 (bif (decide (g1 < (x1.length : Int))) then
 zbX fuel x1 x2 g1 (decide (g1 < 10))
 else
 zbX fuel x1 x2 g1 false)
end
def zeY (fuel : Nat) (x1 : (List Rule)) (x2 : (List Form)) : Option Bool :=
 zbW fuel x1 x2 0
mutual
def za7 (fuel : Nat) (x1 : (List Bind)) (g1 : Int) (g19 : Int) (g28 : Bool) : Option Bool :=
 match fuel with
 | 0 => none
 | fuel + 1 =>
 (bif g28 then
 some false
 else
 za5 fuel x1 g1 (w64 (g19 + 1)))
def za5 (fuel : Nat) (x1 : (List Bind)) (g1 : Int) (g19 : Int) : Option Bool :=
 match fuel with
 | 0 => none
 | fuel + 1 =>
 (bif (decide (g19 < g1)) then
 (idx x1 g19).bind fun v22 =>
 (idx x1 g1).bind fun v23 =>
 (bif (decide (v22.name = v23.name)) then
 (idx x1 g19).bind fun v25 =>
 (idx x1 g1).bind fun v26 =>
 (zeK fuel v25.scopes v26.scopes).bind fun v27 =>
 za7 fuel x1 g1 g19 v27
 else
 za7 fuel x1 g1 g19 false)
 else
 za6 fuel x1 (w64 (g1 + 1)))
def zaw (fuel : Nat) (x1 : (List Bind)) (g1 : Int) (g16 : Bool) : Option Bool :=
 match fuel with
 | 0 => none
 | fuel + 1 =>
 (bif g16 then
 some false
 else
 za5 fuel x1 g1 0)
def za8 (fuel : Nat) (x1 : (List Bind)) (g1 : Int) (g4 : Bool) : Option Bool :=
 match fuel with
 | 0 => none
 | fuel + 1 =>
 (bif g4 then
 (idx x1 g1).bind fun v7 =>
 (zc9 fuel v7.name).bind fun v8 =>
 (bif (!v8) then
 zaw fuel x1 g1 true
 else
 (idx x1 g1).bind fun v10 =>
 (zdI fuel v10.scopes).bind fun v11 =>
 (bif (!v11) then
 zaw fuel x1 g1 true
 else
 (idx x1 g1).bind fun v13 =>
 (bif (decide (v13.id < 1)) then
 zaw fuel x1 g1 true
 else
 (idx x1 g1).bind fun v15 =>
 zaw fuel x1 g1 (decide (999 < v15.id)))))
 else
 some (decide ((x1.length : Int) ≤ 60)))
def za6 (fuel : Nat) (x1 : (List Bind)) (g1 : Int) : Option Bool :=
 match fuel with
 | 0 => none
 | fuel + 1 =>
 (bif (decide (g1 < (x1.length : Int))) then
 za8 fuel x1 g1 (decide (g1 ≤ 60))
 else
 za8 fuel x1 g1 false)
end
def zdJ (fuel : Nat) (x1 : (List Bind)) : Option Bool :=
 za6 fuel x1 0
def zeO (fuel : Nat) (x1 : Bind) (x2 : Int) : Option Int :=
 (bif (decide ((w64 (x2 - (x1.name.size : Int))) < 0)) then
 some (-1)
 else
 (zeN fuel x1.scopes (w64 (x2 - (x1.name.size : Int)))).bind fun v2 =>
 (bif (decide (v2 < 0)) then
 some (-1)
 else
 some v2))
def zb1 (fuel : Nat) (x1 : (List Bind)) (g2 : Int) (g3 : Int) : Option Int :=
 match fuel with
 | 0 => none
 | fuel + 1 =>
 (bif (decide (g3 < (x1.length : Int))) then
 (idx x1 g3).bind fun v7 =>
 (zeO fuel v7 g2).bind fun v8 =>
 (bif (decide (v8 < 0)) then
 some (-1)
 else
 zb1 fuel x1 v8 (g3 + 1))
 else
 some g2)
def ze5 (fuel : Nat) (x1 : (List Bind)) (x2 : Int) : Option Int :=
 (bif (decide ((w64 (x2 - (x1.length : Int))) < 0)) then
 some (-1)
 else
 zb1 fuel x1 (w64 (x2 - (x1.length : Int))) 0)
def zb0 (fuel : Nat) (x1 : (List Rule)) (g2 : Int) (g3 : Int) : Option Int :=
 match fuel with
 | 0 => none
 | fuel + 1 =>
 (bif (decide (g3 < (x1.length : Int))) then
 (idx x1 g3).bind fun v7 =>
 (zeM fuel v7 g2).bind fun v8 =>
 (bif (decide (v8 < 0)) then
 some (-1)
 else
 zb0 fuel x1 v8 (g3 + 1))
 else
 some g2)
def zel (fuel : Nat) (x1 : (List Rule)) (x2 : Int) : Option Int :=
 (bif (decide ((w64 (x2 - (x1.length : Int))) < 0)) then
 some (-1)
 else
 zb0 fuel x1 (w64 (x2 - (x1.length : Int))) 0)
def zem (fuel : Nat) (x1 : zq) (x2 : Int) : Option Int :=
 (zcU fuel x1.literals x2).bind fun v1 =>
 (bif (decide (v1 < 0)) then
 some (-1)
 else
 (zel fuel x1.rules v1).bind fun v3 =>
 (bif (decide (v3 < 0)) then
 some (-1)
 else
 some v3))
def zbL (fuel : Nat) (x1 : (List zq)) (g2 : Int) (g3 : Int) : Option Int :=
 match fuel with
 | 0 => none
 | fuel + 1 =>
 (bif (decide (g3 < (x1.length : Int))) then
 (idx x1 g3).bind fun v7 =>
 (zem fuel v7 g2).bind fun v8 =>
 (bif (decide (v8 < 0)) then
 some (-1)
 else
 zbL fuel x1 v8 (g3 + 1))
 else
 some g2)
def zdL (fuel : Nat) (x1 : (List zq)) (x2 : Int) : Option Int :=
 (bif (decide ((w64 (x2 - (x1.length : Int))) < 0)) then
 some (-1)
 else
 zbL fuel x1 (w64 (x2 - (x1.length : Int))) 0)
def zdl (fuel : Nat) (x1 : zv) (x2 : Int) : Option Int :=
 (ze5 fuel x1.binds x2).bind fun v1 =>
 (bif (decide (v1 < 0)) then
 some (-1)
 else
 (zdL fuel x1.macros v1).bind fun v3 =>
 (bif (decide (v3 < 0)) then
 some (-1)
 else
 some v3))
def zdk (fuel : Nat) (x1 : Bind) : Option Bind :=
 (zdi fuel x1.scopes).bind fun v1 =>
 some (Bind.mk x1.name v1 x1.id)
def za3 (fuel : Nat) (x1 : (List Bind)) (g2 : Int) (g3 : (List Bind)) : Option (List Bind) :=
 match fuel with
 | 0 => none
 | fuel + 1 =>
 (bif (decide (g2 < (x1.length : Int))) then
 (idx x1 g2).bind fun v7 =>
 (zdk fuel v7).bind fun v8 =>
 (idx g3 g2).bind fun v9 =>
 za3 fuel x1 (g2 + 1) (g3.set g2.toNat v8)
 else
 some g3)
def zdz (fuel : Nat) (x1 : (List Bind)) : Option (List Bind) :=
 chk (decide (0 ≤ (x1.length : Int)) && decide ((x1.length : Int).toNat * 48 ≤ 140737488355328)) <|
 za3 fuel x1 0 (List.replicate (x1.length : Int).toNat (Bind.mk (⟨#[]⟩ : ByteArray) ([] : List Int) 0))
def za2 (fuel : Nat) (x1 : (List Rule)) (g2 : Int) (g3 : (List Rule)) : Option (List Rule) :=
 match fuel with
 | 0 => none
 | fuel + 1 =>
 (bif (decide (g2 < (x1.length : Int))) then
 (idx x1 g2).bind fun v7 =>
 (zdh fuel v7).bind fun v8 =>
 (idx g3 g2).bind fun v9 =>
 za2 fuel x1 (g2 + 1) (g3.set g2.toNat v8)
 else
 some g3)
def zdy (fuel : Nat) (x1 : (List Rule)) : Option (List Rule) :=
 chk (decide (0 ≤ (x1.length : Int)) && decide ((x1.length : Int).toNat * 160 ≤ 140737488355328)) <|
 za2 fuel x1 0 (List.replicate (x1.length : Int).toNat (Rule.mk (Form.mk 0 (⟨#[]⟩ : ByteArray) 0 ([] : List Int) ([] : List Form)) (Form.mk 0 (⟨#[]⟩ : ByteArray) 0 ([] : List Int) ([] : List Form))))
def zcT (fuel : Nat) (x1 : zq) : Option zq :=
 (zbQ fuel x1.literals).bind fun v1 =>
 (zdy fuel x1.rules).bind fun v2 =>
 some (zq.mk x1.id v1 v2)
def zaO (fuel : Nat) (x1 : (List zq)) (g2 : Int) (g3 : (List zq)) : Option (List zq) :=
 match fuel with
 | 0 => none
 | fuel + 1 =>
 (bif (decide (g2 < (x1.length : Int))) then
 (idx x1 g2).bind fun v7 =>
 (zcT fuel v7).bind fun v8 =>
 (idx g3 g2).bind fun v9 =>
 zaO fuel x1 (g2 + 1) (g3.set g2.toNat v8)
 else
 some g3)
def zc0 (fuel : Nat) (x1 : (List zq)) : Option (List zq) :=
 chk (decide (0 ≤ (x1.length : Int)) && decide ((x1.length : Int).toNat * 56 ≤ 140737488355328)) <|
 zaO fuel x1 0 (List.replicate (x1.length : Int).toNat (zq.mk 0 ([] : List Form) ([] : List Rule)))
def zaP (fuel : Nat) (x1 : zv) : Option zv :=
 (zdz fuel x1.binds).bind fun v1 =>
 (zc0 fuel x1.macros).bind fun v2 =>
 some (zv.mk v1 v2 x1.scope x1.id x1.steps)
def zfi (fuel : Nat) (x1 : Int) (x2 : Int) (x3 : Int) : Option Bool :=
 (bif (decide (x2 ≤ x1)) then
 some (decide (x1 ≤ x3))
 else
 some false)
def zck (fuel : Nat) (x1 : zv) (x2 : Int) (g1 : Int) : Option Int :=
 match fuel with
 | 0 => none
 | fuel + 1 =>
 (bif (decide (g1 < (x1.macros.length : Int))) then
 (idx x1.macros g1).bind fun v5 =>
 (bif (decide (v5.id = x2)) then
 some g1
 else
 zck fuel x1 x2 (g1 + 1))
 else
 some (-1))
def zej (fuel : Nat) (x1 : zv) (x2 : Int) : Option Int :=
 zck fuel x1 x2 0
mutual
def z8 (fuel : Nat) (x1 : zv) (g12 : Int) : Option Bool :=
 match fuel with
 | 0 => none
 | fuel + 1 =>
 (bif (decide (g12 < (x1.binds.length : Int))) then
 (idx x1.binds g12).bind fun v16 =>
 (bif (decide (x1.id < v16.id)) then
 some false
 else
 (idx x1.binds g12).bind fun v18 =>
 (bif (decide (5 < v18.id)) then
 (idx x1.binds g12).bind fun v20 =>
 (bif (decide (v20.id ≤ 10)) then
 some false
 else
 z8 fuel x1 (g12 + 1))
 else
 z8 fuel x1 (g12 + 1)))
 else
 zbZ fuel x1 )
def zal (fuel : Nat) (x1 : zv) (g23 : Int) : Option Bool :=
 match fuel with
 | 0 => none
 | fuel + 1 =>
 (bif (decide (g23 < (x1.macros.length : Int))) then
 (idx x1.macros g23).bind fun v27 =>
 (bif (decide (v27.id ≤ 10)) then
 some false
 else
 (idx x1.macros g23).bind fun v29 =>
 (bif (decide (x1.id < v29.id)) then
 some false
 else
 (idx x1.macros g23).bind fun v31 =>
 (zej fuel x1 v31.id).bind fun v32 =>
 (bif (decide (v32 ≠ g23)) then
 some false
 else
 (idx x1.macros g23).bind fun v34 =>
 (idx x1.macros g23).bind fun v35 =>
 (zeY fuel v34.rules v35.literals).bind fun v36 =>
 (bif (!v36) then
 some false
 else
 zal fuel x1 (g23 + 1)))))
 else
 some true)
def zbZ (fuel : Nat) (x1 : zv) : Option Bool :=
 match fuel with
 | 0 => none
 | fuel + 1 =>
 zal fuel x1 0
def zaa (fuel : Nat) (x1 : zv) (g9 : Bool) : Option Bool :=
 match fuel with
 | 0 => none
 | fuel + 1 =>
 (bif g9 then
 some false
 else
 z8 fuel x1 0)
end
def zct (fuel : Nat) (x1 : zv) : Option Bool :=
 (zdJ fuel x1.binds).bind fun v1 =>
 (bif (!v1) then
 zaa fuel x1 true
 else
 (bif (decide (60 < (x1.macros.length : Int))) then
 zaa fuel x1 true
 else
 (zfi fuel x1.scope 0 99).bind fun v4 =>
 (bif (!v4) then
 zaa fuel x1 true
 else
 (zfi fuel x1.id 10 999).bind fun v6 =>
 (bif (!v6) then
 zaa fuel x1 true
 else
 (zfi fuel x1.steps 0 60).bind fun v8 =>
 zaa fuel x1 (!v8)))))
def zc4 (fuel : Nat) (x1 : Bind) (o1 : Bind) : Option Bool :=
 (bif (decide (x1.name = o1.name)) then
 (zcy fuel x1.scopes o1.scopes).bind fun v2 =>
 some v2
 else
 some false)
def zK (fuel : Nat) (x1 : (List Bind)) (o1 : Bind) (g1 : Int) : Option Int :=
 match fuel with
 | 0 => none
 | fuel + 1 =>
 (bif (decide (g1 < (x1.length : Int))) then
 (idx x1 g1).bind fun v5 =>
 (zc4 fuel v5 o1).bind fun v6 =>
 (bif v6 then
 some g1
 else
 zK fuel x1 o1 (g1 + 1))
 else
 some (-1))
def zaM (fuel : Nat) (x1 : (List Bind)) (o1 : Bind) : Option Int :=
 zK fuel x1 o1 0
def zaD (fuel : Nat) (x1 : (List Bind)) (o1 : Bind) : Option Bool :=
 (zaM fuel x1 o1).bind fun v1 =>
 some (decide (0 ≤ v1))
mutual
def zaH (fuel : Nat) (x1 : (List Bind)) (g1 : Int) (v5 : Bind) (g11 : Bool) : Option Bool :=
 match fuel with
 | 0 => none
 | fuel + 1 =>
 (bif g11 then
 some false
 else
 (sub x1 0 g1).bind fun v14 =>
 (zaD fuel v14 v5).bind fun v15 =>
 (bif v15 then
 some false
 else
 zbb fuel x1 (g1 + 1)))
def zbb (fuel : Nat) (x1 : (List Bind)) (g1 : Int) : Option Bool :=
 match fuel with
 | 0 => none
 | fuel + 1 =>
 (bif (decide (g1 < (x1.length : Int))) then
 (idx x1 g1).bind fun v5 =>
 (zdc fuel v5.name).bind fun v6 =>
 (bif (!v6) then
 zaH fuel x1 g1 v5 true
 else
 (zdQ fuel v5.scopes).bind fun v8 =>
 (bif (!v8) then
 zaH fuel x1 g1 v5 true
 else
 (zbH fuel v5.id 1 999).bind fun v10 =>
 zaH fuel x1 g1 v5 (!v10)))
 else
 some (decide ((x1.length : Int) ≤ 60)))
end
def zcn (fuel : Nat) (x1 : (List Bind)) : Option Bool :=
 zbb fuel x1 0
def zcb (fuel : Nat) (x1 : Bind) (o1 : zv) : Option Bool :=
 (bif (decide (o1.id < x1.id)) then
 some true
 else
 (zbH fuel x1.id 6 10).bind fun v2 =>
 some v2)
def zH (fuel : Nat) (x1 : (List Bind)) (o1 : zv) (g1 : Int) : Option Int :=
 match fuel with
 | 0 => none
 | fuel + 1 =>
 (bif (decide (g1 < (x1.length : Int))) then
 (idx x1 g1).bind fun v5 =>
 (zcb fuel v5 o1).bind fun v6 =>
 (bif v6 then
 some g1
 else
 zH fuel x1 o1 (g1 + 1))
 else
 some (-1))
def zay (fuel : Nat) (x1 : (List Bind)) (o1 : zv) : Option Int :=
 zH fuel x1 o1 0
def zaq (fuel : Nat) (x1 : (List Bind)) (o1 : zv) : Option Bool :=
 (zay fuel x1 o1).bind fun v1 =>
 some (decide (0 ≤ v1))
def zef (fuel : Nat) (x1 : Rule) (o1 : (List Form)) : Option Bool :=
 (zeh fuel x1 o1).bind fun v1 =>
 some (!v1)
def zR (fuel : Nat) (x1 : (List Rule)) (o1 : (List Form)) (g1 : Int) : Option Int :=
 match fuel with
 | 0 => none
 | fuel + 1 =>
 (bif (decide (g1 < (x1.length : Int))) then
 (idx x1 g1).bind fun v5 =>
 (zef fuel v5 o1).bind fun v6 =>
 (bif v6 then
 some g1
 else
 zR fuel x1 o1 (g1 + 1))
 else
 some (-1))
def zbd (fuel : Nat) (x1 : (List Rule)) (o1 : (List Form)) : Option Int :=
 zR fuel x1 o1 0
def zaN (fuel : Nat) (x1 : (List Rule)) (o1 : (List Form)) : Option Bool :=
 (zbd fuel x1 o1).bind fun v1 =>
 some (decide (0 ≤ v1))
def ze8 (fuel : Nat) (x1 : (List Rule)) (x2 : (List Form)) : Option Bool :=
 (bif (decide ((x1.length : Int) ≤ 9)) then
 (zcX fuel x2).bind fun v2 =>
 (bif v2 then
 (zaN fuel x1 x2).bind fun v4 =>
 some (!v4)
 else
 some false)
 else
 some false)
def zfd (fuel : Nat) (x1 : zq) (o1 : Int) : Option Bool :=
 some (decide (x1.id = o1))
def zN (fuel : Nat) (x1 : (List zq)) (o1 : Int) (g1 : Int) : Option Int :=
 match fuel with
 | 0 => none
 | fuel + 1 =>
 (bif (decide (g1 < (x1.length : Int))) then
 (idx x1 g1).bind fun v5 =>
 (zfd fuel v5 o1).bind fun v6 =>
 (bif v6 then
 some g1
 else
 zN fuel x1 o1 (g1 + 1))
 else
 some (-1))
def za1 (fuel : Nat) (x1 : (List zq)) (o1 : Int) : Option Int :=
 zN fuel x1 o1 0
def zen (fuel : Nat) (x1 : (List zq)) (x2 : Int) : Option Int :=
 (za1 fuel x1 x2).bind fun v1 =>
 some v1
mutual
def zam (fuel : Nat) (x1 : zv) (g14 : Int) : Option Bool :=
 match fuel with
 | 0 => none
 | fuel + 1 =>
 (bif (decide (g14 < (x1.macros.length : Int))) then
 (idx x1.macros g14).bind fun v18 =>
 (ze8 fuel v18.rules v18.literals).bind fun v19 =>
 (bif (!v19) then
 some false
 else
 (zbH fuel v18.id 11 x1.id).bind fun v21 =>
 (bif (!v21) then
 some false
 else
 (sub x1.macros 0 g14).bind fun v23 =>
 (zen fuel v23 v18.id).bind fun v24 =>
 (bif (decide (0 ≤ v24)) then
 some false
 else
 zam fuel x1 (g14 + 1))))
 else
 some true)
def zY (fuel : Nat) (x1 : zv) (g9 : Bool) : Option Bool :=
 match fuel with
 | 0 => none
 | fuel + 1 =>
 (bif g9 then
 some false
 else
 (zaq fuel x1.binds x1).bind fun v12 =>
 (bif v12 then
 some false
 else
 zam fuel x1 0))
end
def zcv (fuel : Nat) (x1 : zv) : Option Bool :=
 (zcn fuel x1.binds).bind fun v1 =>
 (bif (!v1) then
 zY fuel x1 true
 else
 (zbH fuel x1.scope 0 99).bind fun v3 =>
 (bif (!v3) then
 zY fuel x1 true
 else
 (zbH fuel x1.id 10 999).bind fun v5 =>
 (bif (!v5) then
 zY fuel x1 true
 else
 (zbH fuel x1.steps 0 60).bind fun v7 =>
 (bif (!v7) then
 zY fuel x1 true
 else
 zY fuel x1 (decide (60 < (x1.macros.length : Int)))))))
def zeS (fuel : Nat) (x1 : Bind) (x2 : Bind) : Option Bool :=
 (bif (decide (x1.name ≠ x2.name)) then
 some false
 else
 (zeR fuel x1.scopes x2.scopes).bind fun v2 =>
 (bif (!v2) then
 some false
 else
 (bif (decide (x1.id ≠ x2.id)) then
 some false
 else
 some true)))
def zcm (fuel : Nat) (x1 : (List Bind)) (x2 : (List Bind)) (g2 : Int) : Option Bool :=
 match fuel with
 | 0 => none
 | fuel + 1 =>
 (bif (decide (g2 < (x1.length : Int))) then
 (idx x1 g2).bind fun v6 =>
 (idx x2 g2).bind fun v7 =>
 (zeS fuel v6 v7).bind fun v8 =>
 (bif (!v8) then
 some false
 else
 zcm fuel x1 x2 (g2 + 1))
 else
 some true)
def ze7 (fuel : Nat) (x1 : (List Bind)) (x2 : (List Bind)) : Option Bool :=
 (bif (decide ((x1.length : Int) ≠ (x2.length : Int))) then
 some false
 else
 zcm fuel x1 x2 0)
def zcl (fuel : Nat) (x1 : (List Rule)) (x2 : (List Rule)) (g2 : Int) : Option Bool :=
 match fuel with
 | 0 => none
 | fuel + 1 =>
 (bif (decide (g2 < (x1.length : Int))) then
 (idx x1 g2).bind fun v6 =>
 (idx x2 g2).bind fun v7 =>
 (zeP fuel v6 v7).bind fun v8 =>
 (bif (!v8) then
 some false
 else
 zcl fuel x1 x2 (g2 + 1))
 else
 some true)
def ze6 (fuel : Nat) (x1 : (List Rule)) (x2 : (List Rule)) : Option Bool :=
 (bif (decide ((x1.length : Int) ≠ (x2.length : Int))) then
 some false
 else
 zcl fuel x1 x2 0)
def zcr (fuel : Nat) (x1 : zq) (x2 : zq) : Option Bool :=
 (bif (decide (x1.id ≠ x2.id)) then
 some false
 else
 (zcV fuel x1.literals x2.literals).bind fun v2 =>
 (bif (!v2) then
 some false
 else
 (ze6 fuel x1.rules x2.rules).bind fun v4 =>
 (bif (!v4) then
 some false
 else
 some true)))
def zb7 (fuel : Nat) (x1 : (List zq)) (x2 : (List zq)) (g2 : Int) : Option Bool :=
 match fuel with
 | 0 => none
 | fuel + 1 =>
 (bif (decide (g2 < (x1.length : Int))) then
 (idx x1 g2).bind fun v6 =>
 (idx x2 g2).bind fun v7 =>
 (zcr fuel v6 v7).bind fun v8 =>
 (bif (!v8) then
 some false
 else
 zb7 fuel x1 x2 (g2 + 1))
 else
 some true)
def zeC (fuel : Nat) (x1 : (List zq)) (x2 : (List zq)) : Option Bool :=
 (bif (decide ((x1.length : Int) ≠ (x2.length : Int))) then
 some false
 else
 zb7 fuel x1 x2 0)
def zdo (fuel : Nat) (x1 : zv) (x2 : zv) : Option Bool :=
 (ze7 fuel x1.binds x2.binds).bind fun v1 =>
 (bif (!v1) then
 some false
 else
 (zeC fuel x1.macros x2.macros).bind fun v3 =>
 (bif (!v3) then
 some false
 else
 (bif (decide (x1.scope ≠ x2.scope)) then
 some false
 else
 (bif (decide (x1.id ≠ x2.id)) then
 some false
 else
 (bif (decide (x1.steps ≠ x2.steps)) then
 some false
 else
 some true)))))
def zf4 (fuel : Nat) (x1 : (List Int)) (x2 : Int) (g1 : Int) : Option Int :=
 match fuel with
 | 0 => none
 | fuel + 1 =>
 (bif (decide (g1 < (x1.length : Int))) then
 (idx x1 g1).bind fun v5 =>
 (bif (decide (x2 = v5)) then
 some g1
 else
 zf4 fuel x1 x2 (g1 + 1))
 else
 some (-1))
def m_slices_Index_int (fuel : Nat) (x1 : (List Int)) (x2 : Int) : Option Int :=
 zf4 fuel x1 x2 0
def m_slices_Contains_int (fuel : Nat) (x1 : (List Int)) (x2 : Int) : Option Bool :=
 (m_slices_Index_int fuel x1 x2).bind fun v1 =>
 some (decide (0 ≤ v1))
def m_impl_ScopesWithin_1 (fuel : Nat) (x1 : Int) (o1 : (List Int)) : Option Bool :=
 (m_slices_Contains_int fuel o1 x1).bind fun v1 =>
 some (!v1)
def zcp (fuel : Nat) (x1 : (List Int)) (o1 : (List Int)) (g1 : Int) : Option Int :=
 match fuel with
 | 0 => none
 | fuel + 1 =>
 (bif (decide (g1 < (x1.length : Int))) then
 (idx x1 g1).bind fun v5 =>
 (m_impl_ScopesWithin_1 fuel v5 o1).bind fun v6 =>
 (bif v6 then
 some g1
 else
 zcp fuel x1 o1 (g1 + 1))
 else
 some (-1))
def zeT (fuel : Nat) (x1 : (List Int)) (o1 : (List Int)) : Option Int :=
 zcp fuel x1 o1 0
def zet (fuel : Nat) (x1 : (List Int)) (o1 : (List Int)) : Option Bool :=
 (zeT fuel x1 o1).bind fun v1 =>
 some (decide (0 ≤ v1))
def zgD (fuel : Nat) (x1 : (List Int)) (x2 : (List Int)) : Option Bool :=
 (zet fuel x1 x2).bind fun v1 =>
 some (!v1)
mutual
def zhh (fuel : Nat) (x1 : (List Bind)) (x2 : Form) (g1 : (List Int)) (g2 : Int) (g9 : Bool) : Option (List Int) :=
 match fuel with
 | 0 => none
 | fuel + 1 =>
 (bif g9 then
 chk (decide ((g1.length + [g2].length) * 8 ≤ 140737488355328)) <|
 zfV fuel x1 x2 (g1 ++ [g2]) (g2 + 1)
 else
 zfV fuel x1 x2 g1 (g2 + 1))
def zfV (fuel : Nat) (x1 : (List Bind)) (x2 : Form) (g1 : (List Int)) (g2 : Int) : Option (List Int) :=
 match fuel with
 | 0 => none
 | fuel + 1 =>
 (bif (decide (g2 < (x1.length : Int))) then
 (idx x1 g2).bind fun v6 =>
 (bif (decide (v6.name = x2.name)) then
 (zgD fuel v6.scopes x2.scopes).bind fun v8 =>
 zhh fuel x1 x2 g1 g2 v8
 else
 zhh fuel x1 x2 g1 g2 false)
 else
 some g1)
end
def m_impl_fitting (fuel : Nat) (x1 : (List Bind)) (x2 : Form) : Option (List Int) :=
 zfV fuel x1 x2 ([] : List Int) 0
def m_impl_bound_1 (fuel : Nat) (x1 : Int) (o1 : (List Bind)) (o2 : Int) : Option Bool :=
 (idx o1 x1).bind fun v1 =>
 (idx o1 o2).bind fun v2 =>
 (zgD fuel v1.scopes v2.scopes).bind fun v3 =>
 some (!v3)
def zdg (fuel : Nat) (x1 : (List Int)) (o1 : (List Bind)) (o2 : Int) (g1 : Int) : Option Int :=
 match fuel with
 | 0 => none
 | fuel + 1 =>
 (bif (decide (g1 < (x1.length : Int))) then
 (idx x1 g1).bind fun v5 =>
 (m_impl_bound_1 fuel v5 o1 o2).bind fun v6 =>
 (bif v6 then
 some g1
 else
 zdg fuel x1 o1 o2 (g1 + 1))
 else
 some (-1))
def zf5 (fuel : Nat) (x1 : (List Int)) (o1 : (List Bind)) (o2 : Int) : Option Int :=
 zdg fuel x1 o1 o2 0
def zfF (fuel : Nat) (x1 : (List Int)) (o1 : (List Bind)) (o2 : Int) : Option Bool :=
 (zf5 fuel x1 o1 o2).bind fun v1 =>
 some (decide (0 ≤ v1))
def m_impl_bound_l1 (fuel : Nat) (x1 : (List Bind)) (v1 : (List Int)) (g3 : Int) : Option (Int × Int) :=
 match fuel with
 | 0 => none
 | fuel + 1 =>
 (bif (decide (g3 < (v1.length : Int))) then
 (idx v1 g3).bind fun v7 =>
 (zfF fuel v1 x1 v7).bind fun v8 =>
 (bif (!v8) then
 some (v7, 1)
 else
 m_impl_bound_l1 fuel x1 v1 (g3 + 1))
 else
 some (0, 2))
def m_impl_bound (fuel : Nat) (x1 : (List Bind)) (x2 : Form) : Option (Int × Int) :=
 (m_impl_fitting fuel x1 x2).bind fun v1 =>
 (bif (decide ((v1.length : Int) = 0)) then
 some (0, 0)
 else
 m_impl_bound_l1 fuel x1 v1 0)
def zgW (fuel : Nat) (x1 : (List Bind)) (x2 : Form) (g4 : Bool) : Option (Int × Int) :=
 match fuel with
 | 0 => none
 | fuel + 1 =>
 (bif g4 then
 some (0, 0)
 else
 (m_impl_bound fuel x1 x2).bind fun v7 =>
 (bif (decide (v7.2 ≠ 1)) then
 some (0, v7.2)
 else
 (idx x1 v7.1).bind fun v9 =>
 some (v9.id, 1)))
def m_impl_FindName (fuel : Nat) (x1 : (List Bind)) (x2 : Form) : Option (Int × Int) :=
 (zcn fuel x1).bind fun v1 =>
 (bif (!v1) then
 zgW fuel x1 x2 true
 else
 (zdq fuel x2).bind fun v3 =>
 zgW fuel x1 x2 (!v3))
def zd1 (fuel : Nat) (x1 : (List Bind)) (x2 : Form) (x3 : Form) (g6 : Bool) : Option Bool :=
 match fuel with
 | 0 => none
 | fuel + 1 =>
 (bif g6 then
 some false
 else
 (m_impl_FindName fuel x1 x2).bind fun v9 =>
 (m_impl_FindName fuel x1 x3).bind fun v10 =>
 (bif (decide (v9.2 = 1)) then
 (bif (decide (v10.2 = 1)) then
 (bif (decide (v9.1 = v10.1)) then
 some true
 else
 (bif (decide (v9.2 = 0)) then
 (bif (decide (v10.2 = 0)) then
 some (decide (x2.name = x3.name))
 else
 some false)
 else
 some false))
 else
 (bif (decide (v9.2 = 0)) then
 (bif (decide (v10.2 = 0)) then
 some (decide (x2.name = x3.name))
 else
 some false)
 else
 some false))
 else
 (bif (decide (v9.2 = 0)) then
 (bif (decide (v10.2 = 0)) then
 some (decide (x2.name = x3.name))
 else
 some false)
 else
 some false)))
def m_impl_SameReference (fuel : Nat) (x1 : (List Bind)) (x2 : Form) (x3 : Form) : Option Bool :=
 (zcn fuel x1).bind fun v1 =>
 (bif (!v1) then
 zd1 fuel x1 x2 x3 true
 else
 (zdq fuel x2).bind fun v3 =>
 (bif (!v3) then
 zd1 fuel x1 x2 x3 true
 else
 (zdq fuel x3).bind fun v5 =>
 zd1 fuel x1 x2 x3 (!v5)))
mutual
def m_impl_match (fuel : Nat) (x1 : (List Bind)) (x2 : Form) (x3 : (List Form)) (x4 : Form) : Option ((List Hit) × Bool) :=
 match fuel with
 | 0 => none
 | fuel + 1 =>
 (bif (decide (x2.kind = 1)) then
 (bif (decide (x2.name = (⟨#[95]⟩ : ByteArray))) then
 some (([] : List Hit), true)
 else
 (zeD fuel x3 x2).bind fun v3 =>
 (bif v3 then
 (m_impl_SameReference fuel x1 x2 x4).bind fun v5 =>
 some (([] : List Hit), v5)
 else
 (zai fuel x2).bind fun v6 =>
 (zai fuel x4).bind fun v7 =>
 some ([(Hit.mk v6 0 v7 ([] : List Hit))], true)))
 else
 (bif (decide (x2.kind = 2)) then
 (zbx fuel x2 x4).bind fun v9 =>
 some (([] : List Hit), v9)
 else
 (bif (decide (x4.kind ≠ 3)) then
 some (([] : List Hit), false)
 else
 (zfJ fuel x2.kids).bind fun v11 =>
 (bif (decide (v11 < 0)) then
 (bif (decide ((x2.kids.length : Int) ≠ (x4.kids.length : Int))) then
 some (([] : List Hit), false)
 else
 m_impl_match_l2 fuel x1 x2 x3 x4 0 ([] : List Hit))
 else
 (bif (decide ((w64 ((x4.kids.length : Int) - (w64 ((x2.kids.length : Int) - 2)))) < 0)) then
 some (([] : List Hit), false)
 else
 m_impl_match_l4 fuel x1 x2 x3 x4 v11 0 ([] : List Hit))))))
def m_impl_match_l2 (fuel : Nat) (x1 : (List Bind)) (x2 : Form) (x3 : (List Form)) (x4 : Form) (g14 : Int) (g15 : (List Hit)) : Option ((List Hit) × Bool) :=
 match fuel with
 | 0 => none
 | fuel + 1 =>
 (bif (decide (g14 < (x2.kids.length : Int))) then
 (idx x2.kids g14).bind fun v19 =>
 (idx x4.kids g14).bind fun v20 =>
 (zg2 fuel v19 v20 x1 x3 g15).bind fun v21 =>
 (bif (!v21.1) then
 some (([] : List Hit), false)
 else
 m_impl_match_l2 fuel x1 x2 x3 x4 (g14 + 1) v21.2)
 else
 m_impl_match_j1 fuel  g15)
def m_impl_match_j1 (fuel : Nat) (g23 : (List Hit)) : Option ((List Hit) × Bool) :=
 match fuel with
 | 0 => none
 | fuel + 1 =>
 some (g23, true)
def m_impl_match_l4 (fuel : Nat) (x1 : (List Bind)) (x2 : Form) (x3 : (List Form)) (x4 : Form) (v11 : Int) (g26 : Int) (g27 : (List Hit)) : Option ((List Hit) × Bool) :=
 match fuel with
 | 0 => none
 | fuel + 1 =>
 (bif (decide (g26 < (w64 (v11 - 1)))) then
 (idx x2.kids g26).bind fun v30 =>
 (idx x4.kids g26).bind fun v31 =>
 (zg2 fuel v30 v31 x1 x3 g27).bind fun v32 =>
 (bif (!v32.1) then
 some (([] : List Hit), false)
 else
 m_impl_match_l4 fuel x1 x2 x3 x4 v11 (w64 (g26 + 1)) v32.2)
 else
 m_impl_match_j3 fuel x1 x2 x3 x4 v11 g27)
def m_impl_match_l6 (fuel : Nat) (x1 : (List Bind)) (x2 : Form) (x3 : (List Form)) (x4 : Form) (v11 : Int) (g34 : (List Hit)) (v37 : (List Form) × (List Int)) (g38 : (List Hit)) (g39 : Int) : Option ((List Hit) × Bool) :=
 match fuel with
 | 0 => none
 | fuel + 1 =>
 (bif (decide (g39 < (v37.1.length : Int))) then
 (idx v37.1 g39).bind fun v43 =>
 (zai fuel v43).bind fun v44 =>
 (idx v37.2 g39).bind fun v45 =>
 chk (decide ((g38.length + [(Hit.mk v44 (w64 (v45 + 1)) (Form.mk 0 (⟨#[]⟩ : ByteArray) 0 ([] : List Int) ([] : List Form)) ([] : List Hit))].length) * 192 ≤ 140737488355328)) <|
 m_impl_match_l6 fuel x1 x2 x3 x4 v11 g34 v37 (g38 ++ [(Hit.mk v44 (w64 (v45 + 1)) (Form.mk 0 (⟨#[]⟩ : ByteArray) 0 ([] : List Int) ([] : List Form)) ([] : List Hit))]) (g39 + 1)
 else
 m_impl_match_j5 fuel x1 x2 x3 x4 v11 g34 g38)
def m_impl_match_l9 (fuel : Nat) (x1 : (List Bind)) (x2 : Form) (x3 : (List Form)) (x4 : Form) (v11 : Int) (g34 : (List Hit)) (v49 : (List Form)) (g50 : Int) (g51 : (List Hit)) (v57 : (List Hit) × Bool) (g59 : Int) (g60 : (List Hit)) : Option ((List Hit) × Bool) :=
 match fuel with
 | 0 => none
 | fuel + 1 =>
 (bif (decide (g59 < (g51.length : Int))) then
 (idx g60 g59).bind fun v63 =>
 (idx v57.1 g59).bind fun v64 =>
 chk (decide ((v63.many.length + [(Hit.mk (Form.mk 0 (⟨#[]⟩ : ByteArray) 0 ([] : List Int) ([] : List Form)) 0 (Form.mk 0 (⟨#[]⟩ : ByteArray) 0 ([] : List Int) ([] : List Form)) ([] : List Hit))].length) * 192 ≤ 140737488355328)) <|
 (idx (v63.many ++ [(Hit.mk (Form.mk 0 (⟨#[]⟩ : ByteArray) 0 ([] : List Int) ([] : List Form)) 0 (Form.mk 0 (⟨#[]⟩ : ByteArray) 0 ([] : List Int) ([] : List Form)) ([] : List Hit))]) (v63.many.length : Int)).bind fun v66 =>
 (idx g60 g59).bind fun v67 =>
 m_impl_match_l9 fuel x1 x2 x3 x4 v11 g34 v49 g50 g51 v57 (w64 (g59 + 1)) (g60.set g59.toNat (Hit.mk v63.name v63.depth v63.one ((v63.many ++ [(Hit.mk (Form.mk 0 (⟨#[]⟩ : ByteArray) 0 ([] : List Int) ([] : List Form)) 0 (Form.mk 0 (⟨#[]⟩ : ByteArray) 0 ([] : List Int) ([] : List Form)) ([] : List Hit))]).set (v63.many.length : Int).toNat v64)))
 else
 m_impl_match_l8 fuel x1 x2 x3 x4 v11 g34 v49 (w64 (g50 + 1)) g60)
def m_impl_match_l8 (fuel : Nat) (x1 : (List Bind)) (x2 : Form) (x3 : (List Form)) (x4 : Form) (v11 : Int) (g34 : (List Hit)) (v49 : (List Form)) (g50 : Int) (g51 : (List Hit)) : Option ((List Hit) × Bool) :=
 match fuel with
 | 0 => none
 | fuel + 1 =>
 (bif (decide (g50 < (v49.length : Int))) then
 (idx v49 g50).bind fun v55 =>
 (idx x2.kids (w64 (v11 - 1))).bind fun v56 =>
 (m_impl_match fuel x1 v56 x3 v55).bind fun v57 =>
 (bif (!v57.2) then
 some (([] : List Hit), false)
 else
 m_impl_match_l9 fuel x1 x2 x3 x4 v11 g34 v49 g50 g51 v57 0 g51)
 else
 m_impl_match_j7 fuel x1 x2 x3 x4 v11 g34 g51)
def m_impl_match_l10 (fuel : Nat) (x1 : (List Bind)) (x2 : Form) (x3 : (List Form)) (x4 : Form) (v11 : Int) (g71 : Int) (g72 : (List Hit)) : Option ((List Hit) × Bool) :=
 match fuel with
 | 0 => none
 | fuel + 1 =>
 (bif (decide (g71 < (x2.kids.length : Int))) then
 (idx x2.kids g71).bind fun v76 =>
 (idx x4.kids (w64 ((w64 ((w64 ((w64 ((w64 (v11 - 1)) + (w64 ((x4.kids.length : Int) - (w64 ((x2.kids.length : Int) - 2)))))) + g71)) - v11)) - 1))).bind fun v77 =>
 (zg2 fuel v76 v77 x1 x3 g72).bind fun v78 =>
 (bif (!v78.1) then
 some (([] : List Hit), false)
 else
 m_impl_match_l10 fuel x1 x2 x3 x4 v11 (g71 + 1) v78.2)
 else
 some (g72, true))
def m_impl_match_j7 (fuel : Nat) (x1 : (List Bind)) (x2 : Form) (x3 : (List Form)) (x4 : Form) (v11 : Int) (g34 : (List Hit)) (g68 : (List Hit)) : Option ((List Hit) × Bool) :=
 match fuel with
 | 0 => none
 | fuel + 1 =>
 chk (decide ((g34.length + g68.length) * 192 ≤ 140737488355328)) <|
 m_impl_match_l10 fuel x1 x2 x3 x4 v11 (w64 (v11 + 1)) (g34 ++ g68)
def m_impl_match_j5 (fuel : Nat) (x1 : (List Bind)) (x2 : Form) (x3 : (List Form)) (x4 : Form) (v11 : Int) (g34 : (List Hit)) (g47 : (List Hit)) : Option ((List Hit) × Bool) :=
 match fuel with
 | 0 => none
 | fuel + 1 =>
 (sub x4.kids (w64 (v11 - 1)) (w64 ((w64 (v11 - 1)) + (w64 ((x4.kids.length : Int) - (w64 ((x2.kids.length : Int) - 2))))))).bind fun v49 =>
 m_impl_match_l8 fuel x1 x2 x3 x4 v11 g34 v49 0 g47
def m_impl_match_j3 (fuel : Nat) (x1 : (List Bind)) (x2 : Form) (x3 : (List Form)) (x4 : Form) (v11 : Int) (g34 : (List Hit)) : Option ((List Hit) × Bool) :=
 match fuel with
 | 0 => none
 | fuel + 1 =>
 (idx x2.kids (w64 (v11 - 1))).bind fun v36 =>
 (zdZ fuel v36 x3).bind fun v37 =>
 m_impl_match_l6 fuel x1 x2 x3 x4 v11 g34 v37 ([] : List Hit) 0
def zg2 (fuel : Nat) (x1 : Form) (x2 : Form) (o1 : (List Bind)) (o2 : (List Form)) (o3 : (List Hit)) : Option (Bool × (List Hit)) :=
 match fuel with
 | 0 => none
 | fuel + 1 =>
 (m_impl_match fuel o1 x1 o2 x2).bind fun v1 =>
 chk (decide ((o3.length + v1.1.length) * 192 ≤ 140737488355328)) <|
 some (v1.2, (o3 ++ v1.1))
end
def zbM (fuel : Nat) (g1 : Int) (g2 : Int) (g3 : (List Int)) : Option (Int × (List Int)) :=
 match fuel with
 | 0 => none
 | fuel + 1 =>
 (bif (decide (g2 < (g3.length : Int))) then
 (idx g3 g2).bind fun v7 =>
 zbM fuel  (w64 (g1 + 1)) (g2 + 1) (g3.set g2.toNat g1)
 else
 some (g1, g3))
def zcu (fuel : Nat) (x1 : (List Int)) (x2 : Int) : Option (Int × (List Int)) :=
 zbM fuel  x2 0 x1
def zbh (fuel : Nat) (g2 : Int) (g3 : ByteArray) : Option ByteArray :=
 match fuel with
 | 0 => none
 | fuel + 1 =>
 (bif (decide (0 < g2)) then
 (bcat (strOf [(w8 (w64 (48 + (g2.tmod 10))))]) g3).bind fun v6 =>
 zbh fuel  (w64 (g2.tdiv 10)) v6
 else
 (bcat (⟨#[109]⟩ : ByteArray) g3).bind fun v7 =>
 some v7)
def za0 (fuel : Nat) (x1 : Int) : Option ByteArray :=
 (bif (decide (x1 ≤ 0)) then
 some (⟨#[109, 48]⟩ : ByteArray)
 else
 zbh fuel  x1 (⟨#[]⟩ : ByteArray))
mutual
def zaC (fuel : Nat) (x1 : (List Form)) (x2 : Int) : Option (Int × (List Form)) :=
 match fuel with
 | 0 => none
 | fuel + 1 =>
 zbt fuel  x2 0 x1
def zbt (fuel : Nat) (g1 : Int) (g2 : Int) (g3 : (List Form)) : Option (Int × (List Form)) :=
 match fuel with
 | 0 => none
 | fuel + 1 =>
 (bif (decide (g2 < (g3.length : Int))) then
 (idx g3 g2).bind fun v6 =>
 (za0 fuel (w64 (g1 + 1))).bind fun v7 =>
 (idx (g3.set g2.toNat (Form.mk g1 v6.name v6.n v6.scopes v6.kids)) g2).bind fun v8 =>
 (idx ((g3.set g2.toNat (Form.mk g1 v6.name v6.n v6.scopes v6.kids)).set g2.toNat (Form.mk v8.kind v7 v8.n v8.scopes v8.kids)) g2).bind fun v9 =>
 (idx (((g3.set g2.toNat (Form.mk g1 v6.name v6.n v6.scopes v6.kids)).set g2.toNat (Form.mk v8.kind v7 v8.n v8.scopes v8.kids)).set g2.toNat (Form.mk v9.kind v9.name (w64 ((w64 (g1 + 1)) + 1)) v9.scopes v9.kids)) g2).bind fun v10 =>
 (zcu fuel v10.scopes (w64 ((w64 ((w64 (g1 + 1)) + 1)) + 1))).bind fun v11 =>
 (idx ((((g3.set g2.toNat (Form.mk g1 v6.name v6.n v6.scopes v6.kids)).set g2.toNat (Form.mk v8.kind v7 v8.n v8.scopes v8.kids)).set g2.toNat (Form.mk v9.kind v9.name (w64 ((w64 (g1 + 1)) + 1)) v9.scopes v9.kids)).set g2.toNat (Form.mk v10.kind v10.name v10.n v11.2 v10.kids)) g2).bind fun v12 =>
 (zaC fuel v12.kids v11.1).bind fun v13 =>
 zbt fuel  v13.1 (w64 (g2 + 1)) (((((g3.set g2.toNat (Form.mk g1 v6.name v6.n v6.scopes v6.kids)).set g2.toNat (Form.mk v8.kind v7 v8.n v8.scopes v8.kids)).set g2.toNat (Form.mk v9.kind v9.name (w64 ((w64 (g1 + 1)) + 1)) v9.scopes v9.kids)).set g2.toNat (Form.mk v10.kind v10.name v10.n v11.2 v10.kids)).set g2.toNat (Form.mk v12.kind v12.name v12.n v12.scopes v13.2))
 else
 some (g1, g3))
end
def zbN (fuel : Nat) (x1 : (List Int)) (g1 : Int) (g2 : Int) : Option Int :=
 match fuel with
 | 0 => none
 | fuel + 1 =>
 (bif (decide (g2 < (x1.length : Int))) then
 (idx x1 g2).bind fun v6 =>
 (bif (decide (v6 ≠ g1)) then
 some (-1)
 else
 zbN fuel x1 (w64 (g1 + 1)) (g2 + 1))
 else
 some g1)
def zc2 (fuel : Nat) (x1 : (List Int)) (x2 : Int) : Option Int :=
 zbN fuel x1 x2 0
end Go.Abs
