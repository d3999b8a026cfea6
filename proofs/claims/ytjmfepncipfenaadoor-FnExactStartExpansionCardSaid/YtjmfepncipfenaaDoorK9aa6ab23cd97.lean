/- A part of the proof: what the functions that the law calls answer, as pure values. -/
import Derived.Test.YtjmfepncipfenaaDoorK10e2c01bef4a
set_option linter.unusedSimpArgs false
set_option linter.unusedVariables false
set_option maxHeartbeats 4000000
namespace Go.Abs
def m_laws_eqIntS_l1 (fuel : Nat) (x1 : (List Int)) (x2 : (List Int)) (g2 : Int) : Option Bool :=
 match fuel with
 | 0 => none
 | fuel + 1 =>
 (bif (decide (g2 < (x1.length : Int))) then
 (idx x1 g2).bind fun v6 =>
 (idx x2 g2).bind fun v7 =>
 (bif (decide (v6 ≠ v7)) then
 some false
 else
 m_laws_eqIntS_l1 fuel x1 x2 (g2 + 1))
 else
 some true)
def m_laws_eqIntS (fuel : Nat) (x1 : (List Int)) (x2 : (List Int)) : Option Bool :=
 (bif (decide ((x1.length : Int) ≠ (x2.length : Int))) then
 some false
 else
 m_laws_eqIntS_l1 fuel x1 x2 0)
mutual
def m_laws_eqForm (fuel : Nat) (x1 : Form) (x2 : Form) : Option Bool :=
 match fuel with
 | 0 => none
 | fuel + 1 =>
 (bif (decide (x1.kind ≠ x2.kind)) then
 some false
 else
 (bif (decide (x1.name ≠ x2.name)) then
 some false
 else
 (bif (decide (x1.n ≠ x2.n)) then
 some false
 else
 (m_laws_eqIntS fuel x1.scopes x2.scopes).bind fun v4 =>
 (bif (!v4) then
 some false
 else
 (m_laws_eqFormS fuel x1.kids x2.kids).bind fun v6 =>
 (bif (!v6) then
 some false
 else
 some true)))))
def m_laws_eqFormS (fuel : Nat) (x1 : (List Form)) (x2 : (List Form)) : Option Bool :=
 match fuel with
 | 0 => none
 | fuel + 1 =>
 (bif (decide ((x1.length : Int) ≠ (x2.length : Int))) then
 some false
 else
 m_laws_eqFormS_l1 fuel x1 x2 0)
def m_laws_eqFormS_l1 (fuel : Nat) (x1 : (List Form)) (x2 : (List Form)) (g2 : Int) : Option Bool :=
 match fuel with
 | 0 => none
 | fuel + 1 =>
 (bif (decide (g2 < (x1.length : Int))) then
 (idx x1 g2).bind fun v6 =>
 (idx x2 g2).bind fun v7 =>
 (m_laws_eqForm fuel v6 v7).bind fun v8 =>
 (bif (!v8) then
 some false
 else
 m_laws_eqFormS_l1 fuel x1 x2 (g2 + 1))
 else
 some true)
end
def m_laws_eqRule (fuel : Nat) (x1 : Rule) (x2 : Rule) : Option Bool :=
 (m_laws_eqForm fuel x1.pattern x2.pattern).bind fun v1 =>
 (bif (!v1) then
 some false
 else
 (m_laws_eqForm fuel x1.template x2.template).bind fun v3 =>
 (bif (!v3) then
 some false
 else
 some true))
def m_laws_eqBind (fuel : Nat) (x1 : Bind) (x2 : Bind) : Option Bool :=
 (bif (decide (x1.name ≠ x2.name)) then
 some false
 else
 (m_laws_eqIntS fuel x1.scopes x2.scopes).bind fun v2 =>
 (bif (!v2) then
 some false
 else
 (bif (decide (x1.id ≠ x2.id)) then
 some false
 else
 some true)))
def m_laws_eqBindS_l1 (fuel : Nat) (x1 : (List Bind)) (x2 : (List Bind)) (g2 : Int) : Option Bool :=
 match fuel with
 | 0 => none
 | fuel + 1 =>
 (bif (decide (g2 < (x1.length : Int))) then
 (idx x1 g2).bind fun v6 =>
 (idx x2 g2).bind fun v7 =>
 (m_laws_eqBind fuel v6 v7).bind fun v8 =>
 (bif (!v8) then
 some false
 else
 m_laws_eqBindS_l1 fuel x1 x2 (g2 + 1))
 else
 some true)
def m_laws_eqBindS (fuel : Nat) (x1 : (List Bind)) (x2 : (List Bind)) : Option Bool :=
 (bif (decide ((x1.length : Int) ≠ (x2.length : Int))) then
 some false
 else
 m_laws_eqBindS_l1 fuel x1 x2 0)
def m_laws_eqRuleS_l1 (fuel : Nat) (x1 : (List Rule)) (x2 : (List Rule)) (g2 : Int) : Option Bool :=
 match fuel with
 | 0 => none
 | fuel + 1 =>
 (bif (decide (g2 < (x1.length : Int))) then
 (idx x1 g2).bind fun v6 =>
 (idx x2 g2).bind fun v7 =>
 (m_laws_eqRule fuel v6 v7).bind fun v8 =>
 (bif (!v8) then
 some false
 else
 m_laws_eqRuleS_l1 fuel x1 x2 (g2 + 1))
 else
 some true)
def m_laws_eqRuleS (fuel : Nat) (x1 : (List Rule)) (x2 : (List Rule)) : Option Bool :=
 (bif (decide ((x1.length : Int) ≠ (x2.length : Int))) then
 some false
 else
 m_laws_eqRuleS_l1 fuel x1 x2 0)
def m_laws_eqMacro (fuel : Nat) (x1 : Macro) (x2 : Macro) : Option Bool :=
 (bif (decide (x1.id ≠ x2.id)) then
 some false
 else
 (m_laws_eqFormS fuel x1.literals x2.literals).bind fun v2 =>
 (bif (!v2) then
 some false
 else
 (m_laws_eqRuleS fuel x1.rules x2.rules).bind fun v4 =>
 (bif (!v4) then
 some false
 else
 some true)))
def m_laws_eqMacroS_l1 (fuel : Nat) (x1 : (List Macro)) (x2 : (List Macro)) (g2 : Int) : Option Bool :=
 match fuel with
 | 0 => none
 | fuel + 1 =>
 (bif (decide (g2 < (x1.length : Int))) then
 (idx x1 g2).bind fun v6 =>
 (idx x2 g2).bind fun v7 =>
 (m_laws_eqMacro fuel v6 v7).bind fun v8 =>
 (bif (!v8) then
 some false
 else
 m_laws_eqMacroS_l1 fuel x1 x2 (g2 + 1))
 else
 some true)
def m_laws_eqMacroS (fuel : Nat) (x1 : (List Macro)) (x2 : (List Macro)) : Option Bool :=
 (bif (decide ((x1.length : Int) ≠ (x2.length : Int))) then
 some false
 else
 m_laws_eqMacroS_l1 fuel x1 x2 0)
def m_laws_eqExpansion (fuel : Nat) (x1 : Expansion) (x2 : Expansion) : Option Bool :=
 (m_laws_eqBindS fuel x1.binds x2.binds).bind fun v1 =>
 (bif (!v1) then
 some false
 else
 (m_laws_eqMacroS fuel x1.macros x2.macros).bind fun v3 =>
 (bif (!v3) then
 some false
 else
 (bif (decide (x1.scope ≠ x2.scope)) then
 some false
 else
 (bif (decide (x1.id ≠ x2.id)) then
 some false
 else
 (bif (decide (x1.steps ≠ x2.steps)) then
 some false
 else
 some true)))))
def m_laws_markIntS_l1 (fuel : Nat) (g1 : Int) (g2 : Int) (g3 : (List Int)) : Option (Int × (List Int)) :=
 match fuel with
 | 0 => none
 | fuel + 1 =>
 (bif (decide (g2 < (g3.length : Int))) then
 (idx g3 g2).bind fun v7 =>
 m_laws_markIntS_l1 fuel  (w64 (g1 + 1)) (g2 + 1) (g3.set g2.toNat g1)
 else
 some (g1, g3))
def m_laws_markIntS (fuel : Nat) (x1 : (List Int)) (x2 : Int) : Option (Int × (List Int)) :=
 m_laws_markIntS_l1 fuel  x2 0 x1
def m_laws_markText_l1 (fuel : Nat) (g2 : Int) (g3 : ByteArray) : Option ByteArray :=
 match fuel with
 | 0 => none
 | fuel + 1 =>
 (bif (decide (0 < g2)) then
 (bcat (strOf [(w8 (w64 (48 + (g2.tmod 10))))]) g3).bind fun v6 =>
 m_laws_markText_l1 fuel  (w64 (g2.tdiv 10)) v6
 else
 (bcat (⟨#[109]⟩ : ByteArray) g3).bind fun v7 =>
 some v7)
def m_laws_markText (fuel : Nat) (x1 : Int) : Option ByteArray :=
 (bif (decide (x1 ≤ 0)) then
 some (⟨#[109, 48]⟩ : ByteArray)
 else
 m_laws_markText_l1 fuel  x1 (⟨#[]⟩ : ByteArray))
mutual
def m_laws_markFormS (fuel : Nat) (x1 : (List Form)) (x2 : Int) : Option (Int × (List Form)) :=
 match fuel with
 | 0 => none
 | fuel + 1 =>
 m_laws_markFormS_l1 fuel  x2 0 x1
def m_laws_markFormS_l1 (fuel : Nat) (g1 : Int) (g2 : Int) (g3 : (List Form)) : Option (Int × (List Form)) :=
 match fuel with
 | 0 => none
 | fuel + 1 =>
 (bif (decide (g2 < (g3.length : Int))) then
 (idx g3 g2).bind fun v6 =>
 (m_laws_markText fuel (w64 (g1 + 1))).bind fun v7 =>
 (idx (g3.set g2.toNat (Form.mk g1 v6.name v6.n v6.scopes v6.kids)) g2).bind fun v8 =>
 (idx ((g3.set g2.toNat (Form.mk g1 v6.name v6.n v6.scopes v6.kids)).set g2.toNat (Form.mk v8.kind v7 v8.n v8.scopes v8.kids)) g2).bind fun v9 =>
 (idx (((g3.set g2.toNat (Form.mk g1 v6.name v6.n v6.scopes v6.kids)).set g2.toNat (Form.mk v8.kind v7 v8.n v8.scopes v8.kids)).set g2.toNat (Form.mk v9.kind v9.name (w64 ((w64 (g1 + 1)) + 1)) v9.scopes v9.kids)) g2).bind fun v10 =>
 (m_laws_markIntS fuel v10.scopes (w64 ((w64 ((w64 (g1 + 1)) + 1)) + 1))).bind fun v11 =>
 (idx ((((g3.set g2.toNat (Form.mk g1 v6.name v6.n v6.scopes v6.kids)).set g2.toNat (Form.mk v8.kind v7 v8.n v8.scopes v8.kids)).set g2.toNat (Form.mk v9.kind v9.name (w64 ((w64 (g1 + 1)) + 1)) v9.scopes v9.kids)).set g2.toNat (Form.mk v10.kind v10.name v10.n v11.2 v10.kids)) g2).bind fun v12 =>
 (m_laws_markFormS fuel v12.kids v11.1).bind fun v13 =>
 m_laws_markFormS_l1 fuel  v13.1 (w64 (g2 + 1)) (((((g3.set g2.toNat (Form.mk g1 v6.name v6.n v6.scopes v6.kids)).set g2.toNat (Form.mk v8.kind v7 v8.n v8.scopes v8.kids)).set g2.toNat (Form.mk v9.kind v9.name (w64 ((w64 (g1 + 1)) + 1)) v9.scopes v9.kids)).set g2.toNat (Form.mk v10.kind v10.name v10.n v11.2 v10.kids)).set g2.toNat (Form.mk v12.kind v12.name v12.n v12.scopes v13.2))
 else
 some (g1, g3))
end
def m_laws_heldIntS_l1 (fuel : Nat) (x1 : (List Int)) (g1 : Int) (g2 : Int) : Option Int :=
 match fuel with
 | 0 => none
 | fuel + 1 =>
 (bif (decide (g2 < (x1.length : Int))) then
 (idx x1 g2).bind fun v6 =>
 (bif (decide (v6 ≠ g1)) then
 some (-1)
 else
 m_laws_heldIntS_l1 fuel x1 (w64 (g1 + 1)) (g2 + 1))
 else
 some g1)
def m_laws_heldIntS (fuel : Nat) (x1 : (List Int)) (x2 : Int) : Option Int :=
 m_laws_heldIntS_l1 fuel x1 x2 0
mutual
def m_laws_heldFormS (fuel : Nat) (x1 : (List Form)) (x2 : Int) : Option Int :=
 match fuel with
 | 0 => none
 | fuel + 1 =>
 m_laws_heldFormS_l1 fuel x1 x2 0
def m_laws_heldFormS_l1 (fuel : Nat) (x1 : (List Form)) (g1 : Int) (g2 : Int) : Option Int :=
 match fuel with
 | 0 => none
 | fuel + 1 =>
 (bif (decide (g2 < (x1.length : Int))) then
 (idx x1 g2).bind fun v6 =>
 (bif (decide (v6.kind ≠ g1)) then
 some (-1)
 else
 (idx x1 g2).bind fun v8 =>
 (m_laws_markText fuel (w64 (g1 + 1))).bind fun v9 =>
 (bif (decide (v8.name ≠ v9)) then
 some (-1)
 else
 (idx x1 g2).bind fun v11 =>
 (bif (decide (v11.n ≠ (w64 ((w64 (g1 + 1)) + 1)))) then
 some (-1)
 else
 (idx x1 g2).bind fun v13 =>
 (m_laws_heldIntS fuel v13.scopes (w64 ((w64 ((w64 (g1 + 1)) + 1)) + 1))).bind fun v14 =>
 (bif (decide (v14 < 0)) then
 some (-1)
 else
 (idx x1 g2).bind fun v16 =>
 (m_laws_heldFormS fuel v16.kids v14).bind fun v17 =>
 (bif (decide (v17 < 0)) then
 some (-1)
 else
 m_laws_heldFormS_l1 fuel x1 v17 (g2 + 1))))))
 else
 some g1)
end
def m_laws_markRuleS_l1 (fuel : Nat) (g1 : Int) (g2 : Int) (g3 : (List Rule)) : Option (Int × (List Rule)) :=
 match fuel with
 | 0 => none
 | fuel + 1 =>
 (bif (decide (g2 < (g3.length : Int))) then
 (idx g3 g2).bind fun v6 =>
 (m_laws_markText fuel (w64 (g1 + 1))).bind fun v7 =>
 (idx (g3.set g2.toNat (Rule.mk (Form.mk g1 v6.pattern.name v6.pattern.n v6.pattern.scopes v6.pattern.kids) v6.template)) g2).bind fun v8 =>
 (idx ((g3.set g2.toNat (Rule.mk (Form.mk g1 v6.pattern.name v6.pattern.n v6.pattern.scopes v6.pattern.kids) v6.template)).set g2.toNat (Rule.mk (Form.mk v8.pattern.kind v7 v8.pattern.n v8.pattern.scopes v8.pattern.kids) v8.template)) g2).bind fun v9 =>
 (idx (((g3.set g2.toNat (Rule.mk (Form.mk g1 v6.pattern.name v6.pattern.n v6.pattern.scopes v6.pattern.kids) v6.template)).set g2.toNat (Rule.mk (Form.mk v8.pattern.kind v7 v8.pattern.n v8.pattern.scopes v8.pattern.kids) v8.template)).set g2.toNat (Rule.mk (Form.mk v9.pattern.kind v9.pattern.name (w64 ((w64 (g1 + 1)) + 1)) v9.pattern.scopes v9.pattern.kids) v9.template)) g2).bind fun v10 =>
 (m_laws_markIntS fuel v10.pattern.scopes (w64 ((w64 ((w64 (g1 + 1)) + 1)) + 1))).bind fun v11 =>
 (idx ((((g3.set g2.toNat (Rule.mk (Form.mk g1 v6.pattern.name v6.pattern.n v6.pattern.scopes v6.pattern.kids) v6.template)).set g2.toNat (Rule.mk (Form.mk v8.pattern.kind v7 v8.pattern.n v8.pattern.scopes v8.pattern.kids) v8.template)).set g2.toNat (Rule.mk (Form.mk v9.pattern.kind v9.pattern.name (w64 ((w64 (g1 + 1)) + 1)) v9.pattern.scopes v9.pattern.kids) v9.template)).set g2.toNat (Rule.mk (Form.mk v10.pattern.kind v10.pattern.name v10.pattern.n v11.2 v10.pattern.kids) v10.template)) g2).bind fun v12 =>
 (m_laws_markFormS fuel v12.pattern.kids v11.1).bind fun v13 =>
 (idx (((((g3.set g2.toNat (Rule.mk (Form.mk g1 v6.pattern.name v6.pattern.n v6.pattern.scopes v6.pattern.kids) v6.template)).set g2.toNat (Rule.mk (Form.mk v8.pattern.kind v7 v8.pattern.n v8.pattern.scopes v8.pattern.kids) v8.template)).set g2.toNat (Rule.mk (Form.mk v9.pattern.kind v9.pattern.name (w64 ((w64 (g1 + 1)) + 1)) v9.pattern.scopes v9.pattern.kids) v9.template)).set g2.toNat (Rule.mk (Form.mk v10.pattern.kind v10.pattern.name v10.pattern.n v11.2 v10.pattern.kids) v10.template)).set g2.toNat (Rule.mk (Form.mk v12.pattern.kind v12.pattern.name v12.pattern.n v12.pattern.scopes v13.2) v12.template)) g2).bind fun v14 =>
 (m_laws_markText fuel (w64 (v13.1 + 1))).bind fun v15 =>
 (idx ((((((g3.set g2.toNat (Rule.mk (Form.mk g1 v6.pattern.name v6.pattern.n v6.pattern.scopes v6.pattern.kids) v6.template)).set g2.toNat (Rule.mk (Form.mk v8.pattern.kind v7 v8.pattern.n v8.pattern.scopes v8.pattern.kids) v8.template)).set g2.toNat (Rule.mk (Form.mk v9.pattern.kind v9.pattern.name (w64 ((w64 (g1 + 1)) + 1)) v9.pattern.scopes v9.pattern.kids) v9.template)).set g2.toNat (Rule.mk (Form.mk v10.pattern.kind v10.pattern.name v10.pattern.n v11.2 v10.pattern.kids) v10.template)).set g2.toNat (Rule.mk (Form.mk v12.pattern.kind v12.pattern.name v12.pattern.n v12.pattern.scopes v13.2) v12.template)).set g2.toNat (Rule.mk v14.pattern (Form.mk v13.1 v14.template.name v14.template.n v14.template.scopes v14.template.kids))) g2).bind fun v16 =>
 (idx (((((((g3.set g2.toNat (Rule.mk (Form.mk g1 v6.pattern.name v6.pattern.n v6.pattern.scopes v6.pattern.kids) v6.template)).set g2.toNat (Rule.mk (Form.mk v8.pattern.kind v7 v8.pattern.n v8.pattern.scopes v8.pattern.kids) v8.template)).set g2.toNat (Rule.mk (Form.mk v9.pattern.kind v9.pattern.name (w64 ((w64 (g1 + 1)) + 1)) v9.pattern.scopes v9.pattern.kids) v9.template)).set g2.toNat (Rule.mk (Form.mk v10.pattern.kind v10.pattern.name v10.pattern.n v11.2 v10.pattern.kids) v10.template)).set g2.toNat (Rule.mk (Form.mk v12.pattern.kind v12.pattern.name v12.pattern.n v12.pattern.scopes v13.2) v12.template)).set g2.toNat (Rule.mk v14.pattern (Form.mk v13.1 v14.template.name v14.template.n v14.template.scopes v14.template.kids))).set g2.toNat (Rule.mk v16.pattern (Form.mk v16.template.kind v15 v16.template.n v16.template.scopes v16.template.kids))) g2).bind fun v17 =>
 (idx ((((((((g3.set g2.toNat (Rule.mk (Form.mk g1 v6.pattern.name v6.pattern.n v6.pattern.scopes v6.pattern.kids) v6.template)).set g2.toNat (Rule.mk (Form.mk v8.pattern.kind v7 v8.pattern.n v8.pattern.scopes v8.pattern.kids) v8.template)).set g2.toNat (Rule.mk (Form.mk v9.pattern.kind v9.pattern.name (w64 ((w64 (g1 + 1)) + 1)) v9.pattern.scopes v9.pattern.kids) v9.template)).set g2.toNat (Rule.mk (Form.mk v10.pattern.kind v10.pattern.name v10.pattern.n v11.2 v10.pattern.kids) v10.template)).set g2.toNat (Rule.mk (Form.mk v12.pattern.kind v12.pattern.name v12.pattern.n v12.pattern.scopes v13.2) v12.template)).set g2.toNat (Rule.mk v14.pattern (Form.mk v13.1 v14.template.name v14.template.n v14.template.scopes v14.template.kids))).set g2.toNat (Rule.mk v16.pattern (Form.mk v16.template.kind v15 v16.template.n v16.template.scopes v16.template.kids))).set g2.toNat (Rule.mk v17.pattern (Form.mk v17.template.kind v17.template.name (w64 ((w64 (v13.1 + 1)) + 1)) v17.template.scopes v17.template.kids))) g2).bind fun v18 =>
 (m_laws_markIntS fuel v18.template.scopes (w64 ((w64 ((w64 (v13.1 + 1)) + 1)) + 1))).bind fun v19 =>
 (idx (((((((((g3.set g2.toNat (Rule.mk (Form.mk g1 v6.pattern.name v6.pattern.n v6.pattern.scopes v6.pattern.kids) v6.template)).set g2.toNat (Rule.mk (Form.mk v8.pattern.kind v7 v8.pattern.n v8.pattern.scopes v8.pattern.kids) v8.template)).set g2.toNat (Rule.mk (Form.mk v9.pattern.kind v9.pattern.name (w64 ((w64 (g1 + 1)) + 1)) v9.pattern.scopes v9.pattern.kids) v9.template)).set g2.toNat (Rule.mk (Form.mk v10.pattern.kind v10.pattern.name v10.pattern.n v11.2 v10.pattern.kids) v10.template)).set g2.toNat (Rule.mk (Form.mk v12.pattern.kind v12.pattern.name v12.pattern.n v12.pattern.scopes v13.2) v12.template)).set g2.toNat (Rule.mk v14.pattern (Form.mk v13.1 v14.template.name v14.template.n v14.template.scopes v14.template.kids))).set g2.toNat (Rule.mk v16.pattern (Form.mk v16.template.kind v15 v16.template.n v16.template.scopes v16.template.kids))).set g2.toNat (Rule.mk v17.pattern (Form.mk v17.template.kind v17.template.name (w64 ((w64 (v13.1 + 1)) + 1)) v17.template.scopes v17.template.kids))).set g2.toNat (Rule.mk v18.pattern (Form.mk v18.template.kind v18.template.name v18.template.n v19.2 v18.template.kids))) g2).bind fun v20 =>
 (m_laws_markFormS fuel v20.template.kids v19.1).bind fun v21 =>
 m_laws_markRuleS_l1 fuel  v21.1 (w64 (g2 + 1)) ((((((((((g3.set g2.toNat (Rule.mk (Form.mk g1 v6.pattern.name v6.pattern.n v6.pattern.scopes v6.pattern.kids) v6.template)).set g2.toNat (Rule.mk (Form.mk v8.pattern.kind v7 v8.pattern.n v8.pattern.scopes v8.pattern.kids) v8.template)).set g2.toNat (Rule.mk (Form.mk v9.pattern.kind v9.pattern.name (w64 ((w64 (g1 + 1)) + 1)) v9.pattern.scopes v9.pattern.kids) v9.template)).set g2.toNat (Rule.mk (Form.mk v10.pattern.kind v10.pattern.name v10.pattern.n v11.2 v10.pattern.kids) v10.template)).set g2.toNat (Rule.mk (Form.mk v12.pattern.kind v12.pattern.name v12.pattern.n v12.pattern.scopes v13.2) v12.template)).set g2.toNat (Rule.mk v14.pattern (Form.mk v13.1 v14.template.name v14.template.n v14.template.scopes v14.template.kids))).set g2.toNat (Rule.mk v16.pattern (Form.mk v16.template.kind v15 v16.template.n v16.template.scopes v16.template.kids))).set g2.toNat (Rule.mk v17.pattern (Form.mk v17.template.kind v17.template.name (w64 ((w64 (v13.1 + 1)) + 1)) v17.template.scopes v17.template.kids))).set g2.toNat (Rule.mk v18.pattern (Form.mk v18.template.kind v18.template.name v18.template.n v19.2 v18.template.kids))).set g2.toNat (Rule.mk v20.pattern (Form.mk v20.template.kind v20.template.name v20.template.n v20.template.scopes v21.2)))
 else
 some (g1, g3))
def m_laws_markRuleS (fuel : Nat) (x1 : (List Rule)) (x2 : Int) : Option (Int × (List Rule)) :=
 m_laws_markRuleS_l1 fuel  x2 0 x1
def m_laws_heldRuleS_l1 (fuel : Nat) (x1 : (List Rule)) (g1 : Int) (g2 : Int) : Option Int :=
 match fuel with
 | 0 => none
 | fuel + 1 =>
 (bif (decide (g2 < (x1.length : Int))) then
 (idx x1 g2).bind fun v6 =>
 (bif (decide (v6.pattern.kind ≠ g1)) then
 some (-1)
 else
 (idx x1 g2).bind fun v8 =>
 (m_laws_markText fuel (w64 (g1 + 1))).bind fun v9 =>
 (bif (decide (v8.pattern.name ≠ v9)) then
 some (-1)
 else
 (idx x1 g2).bind fun v11 =>
 (bif (decide (v11.pattern.n ≠ (w64 ((w64 (g1 + 1)) + 1)))) then
 some (-1)
 else
 (idx x1 g2).bind fun v13 =>
 (m_laws_heldIntS fuel v13.pattern.scopes (w64 ((w64 ((w64 (g1 + 1)) + 1)) + 1))).bind fun v14 =>
 (bif (decide (v14 < 0)) then
 some (-1)
 else
 (idx x1 g2).bind fun v16 =>
 (m_laws_heldFormS fuel v16.pattern.kids v14).bind fun v17 =>
 (bif (decide (v17 < 0)) then
 some (-1)
 else
 (idx x1 g2).bind fun v19 =>
 (bif (decide (v19.template.kind ≠ v17)) then
 some (-1)
 else
 (idx x1 g2).bind fun v21 =>
 (m_laws_markText fuel (w64 (v17 + 1))).bind fun v22 =>
 (bif (decide (v21.template.name ≠ v22)) then
 some (-1)
 else
 (idx x1 g2).bind fun v24 =>
 (bif (decide (v24.template.n ≠ (w64 ((w64 (v17 + 1)) + 1)))) then
 some (-1)
 else
 (idx x1 g2).bind fun v26 =>
 (m_laws_heldIntS fuel v26.template.scopes (w64 ((w64 ((w64 (v17 + 1)) + 1)) + 1))).bind fun v27 =>
 (bif (decide (v27 < 0)) then
 some (-1)
 else
 (idx x1 g2).bind fun v29 =>
 (m_laws_heldFormS fuel v29.template.kids v27).bind fun v30 =>
 (bif (decide (v30 < 0)) then
 some (-1)
 else
 m_laws_heldRuleS_l1 fuel x1 v30 (g2 + 1)))))))))))
 else
 some g1)
def m_laws_heldRuleS (fuel : Nat) (x1 : (List Rule)) (x2 : Int) : Option Int :=
 m_laws_heldRuleS_l1 fuel x1 x2 0
def m_spec_l7Names (fuel : Nat)  : Option (List ByteArray) :=
 some [(⟨#[]⟩ : ByteArray), (⟨#[108, 97, 109, 98, 100, 97]⟩ : ByteArray), (⟨#[105, 102]⟩ : ByteArray), (⟨#[113, 117, 111, 116, 101]⟩ : ByteArray), (⟨#[108, 101, 116]⟩ : ByteArray), (⟨#[108, 101, 116, 45, 115, 121, 110, 116, 97, 120]⟩ : ByteArray)]
def m_spec_StartExpansion_l1 (fuel : Nat) (v1 : (List ByteArray)) (g2 : Int) (g3 : (List Bind)) : Option Expansion :=
 match fuel with
 | 0 => none
 | fuel + 1 =>
 (bif (decide (g2 < (v1.length : Int))) then
 (idx v1 g2).bind fun v7 =>
 chk (decide ((g3.length + [(Bind.mk v7 ([] : List Int) g2)].length) * 48 ≤ 140737488355328)) <|
 m_spec_StartExpansion_l1 fuel v1 (g2 + 1) (g3 ++ [(Bind.mk v7 ([] : List Int) g2)])
 else
 some (Expansion.mk g3 ([] : List Macro) 0 10 0))
def m_spec_StartExpansion (fuel : Nat)  : Option Expansion :=
 (m_spec_l7Names fuel).bind fun v1 =>
 m_spec_StartExpansion_l1 fuel v1 1 ([] : List Bind)
def m_impl_StartExpansion_l1 (fuel : Nat) (g1 : Int) (g2 : (List Bind)) : Option Expansion :=
 match fuel with
 | 0 => none
 | fuel + 1 =>
 (bif (decide (g1 < 5)) then
 (idx coreFormsL g1).bind fun v5 =>
 chk (decide ((g2.length + [(Bind.mk v5 ([] : List Int) (w64 (g1 + 1)))].length) * 48 ≤ 140737488355328)) <|
 m_impl_StartExpansion_l1 fuel  (w64 (g1 + 1)) (g2 ++ [(Bind.mk v5 ([] : List Int) (w64 (g1 + 1)))])
 else
 some (Expansion.mk g2 ([] : List Macro) 0 10 0))
def m_impl_StartExpansion (fuel : Nat)  : Option Expansion :=
 m_impl_StartExpansion_l1 fuel  0 ([] : List Bind)
def m_laws_markBindS_l1 (fuel : Nat) (g1 : Int) (g2 : Int) (g3 : (List Bind)) : Option (Int × (List Bind)) :=
 match fuel with
 | 0 => none
 | fuel + 1 =>
 (bif (decide (g2 < (g3.length : Int))) then
 (m_laws_markText fuel g1).bind fun v6 =>
 (idx g3 g2).bind fun v7 =>
 (idx (g3.set g2.toNat (Bind.mk v6 v7.scopes v7.id)) g2).bind fun v8 =>
 (m_laws_markIntS fuel v8.scopes (w64 (g1 + 1))).bind fun v9 =>
 (idx ((g3.set g2.toNat (Bind.mk v6 v7.scopes v7.id)).set g2.toNat (Bind.mk v8.name v9.2 v8.id)) g2).bind fun v10 =>
 m_laws_markBindS_l1 fuel  (w64 (v9.1 + 1)) (w64 (g2 + 1)) (((g3.set g2.toNat (Bind.mk v6 v7.scopes v7.id)).set g2.toNat (Bind.mk v8.name v9.2 v8.id)).set g2.toNat (Bind.mk v10.name v10.scopes v9.1))
 else
 some (g1, g3))
def m_laws_markBindS (fuel : Nat) (x1 : (List Bind)) (x2 : Int) : Option (Int × (List Bind)) :=
 m_laws_markBindS_l1 fuel  x2 0 x1
def m_laws_markMacroS_l1 (fuel : Nat) (g1 : Int) (g2 : Int) (g3 : (List Macro)) : Option (Int × (List Macro)) :=
 match fuel with
 | 0 => none
 | fuel + 1 =>
 (bif (decide (g2 < (g3.length : Int))) then
 (idx g3 g2).bind fun v6 =>
 (idx (g3.set g2.toNat (Macro.mk g1 v6.literals v6.rules)) g2).bind fun v7 =>
 (m_laws_markFormS fuel v7.literals (w64 (g1 + 1))).bind fun v8 =>
 (idx ((g3.set g2.toNat (Macro.mk g1 v6.literals v6.rules)).set g2.toNat (Macro.mk v7.id v8.2 v7.rules)) g2).bind fun v9 =>
 (m_laws_markRuleS fuel v9.rules v8.1).bind fun v10 =>
 m_laws_markMacroS_l1 fuel  v10.1 (w64 (g2 + 1)) (((g3.set g2.toNat (Macro.mk g1 v6.literals v6.rules)).set g2.toNat (Macro.mk v7.id v8.2 v7.rules)).set g2.toNat (Macro.mk v9.id v9.literals v10.2))
 else
 some (g1, g3))
def m_laws_markMacroS (fuel : Nat) (x1 : (List Macro)) (x2 : Int) : Option (Int × (List Macro)) :=
 m_laws_markMacroS_l1 fuel  x2 0 x1
def m_laws_markExpansion (fuel : Nat) (x1 : Expansion) (x2 : Int) : Option (Int × (List Bind) × (List Macro)) :=
 (m_laws_markBindS fuel x1.binds x2).bind fun v1 =>
 (m_laws_markMacroS fuel x1.macros v1.1).bind fun v2 =>
 some (v2.1, v1.2, v2.2)
def m_laws_heldBindS_l1 (fuel : Nat) (x1 : (List Bind)) (g1 : Int) (g2 : Int) : Option Int :=
 match fuel with
 | 0 => none
 | fuel + 1 =>
 (bif (decide (g2 < (x1.length : Int))) then
 (idx x1 g2).bind fun v6 =>
 (m_laws_markText fuel g1).bind fun v7 =>
 (bif (decide (v6.name ≠ v7)) then
 some (-1)
 else
 (idx x1 g2).bind fun v9 =>
 (m_laws_heldIntS fuel v9.scopes (w64 (g1 + 1))).bind fun v10 =>
 (bif (decide (v10 < 0)) then
 some (-1)
 else
 (idx x1 g2).bind fun v12 =>
 (bif (decide (v12.id ≠ v10)) then
 some (-1)
 else
 m_laws_heldBindS_l1 fuel x1 (w64 (v10 + 1)) (g2 + 1))))
 else
 some g1)
def m_laws_heldBindS (fuel : Nat) (x1 : (List Bind)) (x2 : Int) : Option Int :=
 m_laws_heldBindS_l1 fuel x1 x2 0
def m_laws_heldMacroS_l1 (fuel : Nat) (x1 : (List Macro)) (g1 : Int) (g2 : Int) : Option Int :=
 match fuel with
 | 0 => none
 | fuel + 1 =>
 (bif (decide (g2 < (x1.length : Int))) then
 (idx x1 g2).bind fun v6 =>
 (bif (decide (v6.id ≠ g1)) then
 some (-1)
 else
 (idx x1 g2).bind fun v8 =>
 (m_laws_heldFormS fuel v8.literals (w64 (g1 + 1))).bind fun v9 =>
 (bif (decide (v9 < 0)) then
 some (-1)
 else
 (idx x1 g2).bind fun v11 =>
 (m_laws_heldRuleS fuel v11.rules v9).bind fun v12 =>
 (bif (decide (v12 < 0)) then
 some (-1)
 else
 m_laws_heldMacroS_l1 fuel x1 v12 (g2 + 1))))
 else
 some g1)
def m_laws_heldMacroS (fuel : Nat) (x1 : (List Macro)) (x2 : Int) : Option Int :=
 m_laws_heldMacroS_l1 fuel x1 x2 0
def m_laws_heldExpansion (fuel : Nat) (x1 : Expansion) (x2 : Int) : Option Int :=
 (m_laws_heldBindS fuel x1.binds x2).bind fun v1 =>
 (bif (decide (v1 < 0)) then
 some (-1)
 else
 (m_laws_heldMacroS fuel x1.macros v1).bind fun v3 =>
 (bif (decide (v3 < 0)) then
 some (-1)
 else
 some v3))
def m_laws_FnExactStartExpansion (fuel : Nat)  : Option Bool :=
 (m_spec_StartExpansion fuel).bind fun v1 =>
 (m_impl_StartExpansion fuel).bind fun v2 =>
 (m_laws_eqExpansion fuel v2 v1).bind fun v3 =>
 (bif (!v3) then
 some false
 else
 (m_laws_markExpansion fuel v2 1).bind fun v5 =>
 (m_laws_heldExpansion fuel (Expansion.mk v5.2.1 v5.2.2 v2.scope v2.id v2.steps) 1).bind fun v6 =>
 (bif (decide (v6 < 0)) then
 some false
 else
 (bif (decide (v6 ≠ v5.1)) then
 some false
 else
 (m_impl_StartExpansion fuel).bind fun v9 =>
 (m_laws_eqExpansion fuel v9 v1).bind fun v10 =>
 (bif (!v10) then
 some false
 else
 (m_laws_heldExpansion fuel (Expansion.mk v5.2.1 v5.2.2 v2.scope v2.id v2.steps) 1).bind fun v12 =>
 (bif (decide (v12 < 0)) then
 some false
 else
 (bif (decide (v12 ≠ v5.1)) then
 some false
 else
 some true))))))
end Go.Abs
