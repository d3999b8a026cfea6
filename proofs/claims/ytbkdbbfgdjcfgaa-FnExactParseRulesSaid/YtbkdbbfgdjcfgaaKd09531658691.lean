/- A part of the proof: what the functions that the law calls answer, as pure values. -/
import Derived.Test.YtbkdbbfgdjcfgaaK0b7d7560d506
import Derived.Test.YtbkdbbfgdjcfgaaK4fd39b116326
import Derived.Test.YtbkdbbfgdjcfgaaK96cd8f24d73b
set_option linter.unusedSimpArgs false
set_option linter.unusedVariables false
set_option maxHeartbeats 4000000
namespace Go.Abs
mutual
def m_laws_heldFormS (fuel : Nat) (x1 : (List Form)) (x2 : Int) : Option Int :=
 match fuel with
 | 0 => none
 | fuel + 1 =>
 m_laws_heldFormS_l1 fuel x1 x2 0
def m_laws_heldFormS_l1 (fuel : Nat) (x1 : (List Form)) (g1 : Int) (g2 : Int) : Option Int :=
 match fuel with
 | 0 => none
 | fuel + 1 =>
 (bif (decide (g2 < (x1.length : Int))) then
 (idx x1 g2).bind fun v6 =>
 (bif (decide (v6.kind ≠ g1)) then
 some (-1)
 else
 (idx x1 g2).bind fun v8 =>
 (m_laws_markText fuel (w64 (g1 + 1))).bind fun v9 =>
 (bif (decide (v8.name ≠ v9)) then
 some (-1)
 else
 (idx x1 g2).bind fun v11 =>
 (bif (decide (v11.n ≠ (w64 ((w64 (g1 + 1)) + 1)))) then
 some (-1)
 else
 (idx x1 g2).bind fun v13 =>
 (m_laws_heldIntS fuel v13.scopes (w64 ((w64 ((w64 (g1 + 1)) + 1)) + 1))).bind fun v14 =>
 (bif (decide (v14 < 0)) then
 some (-1)
 else
 (idx x1 g2).bind fun v16 =>
 (m_laws_heldFormS fuel v16.kids v14).bind fun v17 =>
 (bif (decide (v17 < 0)) then
 some (-1)
 else
 m_laws_heldFormS_l1 fuel x1 v17 (g2 + 1))))))
 else
 some g1)
end
def m_laws_markRuleS_l1 (fuel : Nat) (g1 : Int) (g2 : Int) (g3 : (List Rule)) : Option (Int × (List Rule)) :=
 match fuel with
 | 0 => none
 | fuel + 1 =>
 (bif (decide (g2 < (g3.length : Int))) then
 (idx g3 g2).bind fun v6 =>
 (m_laws_markText fuel (w64 (g1 + 1))).bind fun v7 =>
 (idx (g3.set g2.toNat (Rule.mk (Form.mk g1 v6.pattern.name v6.pattern.n v6.pattern.scopes v6.pattern.kids) v6.template)) g2).bind fun v8 =>
 (idx ((g3.set g2.toNat (Rule.mk (Form.mk g1 v6.pattern.name v6.pattern.n v6.pattern.scopes v6.pattern.kids) v6.template)).set g2.toNat (Rule.mk (Form.mk v8.pattern.kind v7 v8.pattern.n v8.pattern.scopes v8.pattern.kids) v8.template)) g2).bind fun v9 =>
 (idx (((g3.set g2.toNat (Rule.mk (Form.mk g1 v6.pattern.name v6.pattern.n v6.pattern.scopes v6.pattern.kids) v6.template)).set g2.toNat (Rule.mk (Form.mk v8.pattern.kind v7 v8.pattern.n v8.pattern.scopes v8.pattern.kids) v8.template)).set g2.toNat (Rule.mk (Form.mk v9.pattern.kind v9.pattern.name (w64 ((w64 (g1 + 1)) + 1)) v9.pattern.scopes v9.pattern.kids) v9.template)) g2).bind fun v10 =>
 (m_laws_markIntS fuel v10.pattern.scopes (w64 ((w64 ((w64 (g1 + 1)) + 1)) + 1))).bind fun v11 =>
 (idx ((((g3.set g2.toNat (Rule.mk (Form.mk g1 v6.pattern.name v6.pattern.n v6.pattern.scopes v6.pattern.kids) v6.template)).set g2.toNat (Rule.mk (Form.mk v8.pattern.kind v7 v8.pattern.n v8.pattern.scopes v8.pattern.kids) v8.template)).set g2.toNat (Rule.mk (Form.mk v9.pattern.kind v9.pattern.name (w64 ((w64 (g1 + 1)) + 1)) v9.pattern.scopes v9.pattern.kids) v9.template)).set g2.toNat (Rule.mk (Form.mk v10.pattern.kind v10.pattern.name v10.pattern.n v11.2 v10.pattern.kids) v10.template)) g2).bind fun v12 =>
 (m_laws_markFormS fuel v12.pattern.kids v11.1).bind fun v13 =>
 (idx (((((g3.set g2.toNat (Rule.mk (Form.mk g1 v6.pattern.name v6.pattern.n v6.pattern.scopes v6.pattern.kids) v6.template)).set g2.toNat (Rule.mk (Form.mk v8.pattern.kind v7 v8.pattern.n v8.pattern.scopes v8.pattern.kids) v8.template)).set g2.toNat (Rule.mk (Form.mk v9.pattern.kind v9.pattern.name (w64 ((w64 (g1 + 1)) + 1)) v9.pattern.scopes v9.pattern.kids) v9.template)).set g2.toNat (Rule.mk (Form.mk v10.pattern.kind v10.pattern.name v10.pattern.n v11.2 v10.pattern.kids) v10.template)).set g2.toNat (Rule.mk (Form.mk v12.pattern.kind v12.pattern.name v12.pattern.n v12.pattern.scopes v13.2) v12.template)) g2).bind fun v14 =>
 (m_laws_markText fuel (w64 (v13.1 + 1))).bind fun v15 =>
 (idx ((((((g3.set g2.toNat (Rule.mk (Form.mk g1 v6.pattern.name v6.pattern.n v6.pattern.scopes v6.pattern.kids) v6.template)).set g2.toNat (Rule.mk (Form.mk v8.pattern.kind v7 v8.pattern.n v8.pattern.scopes v8.pattern.kids) v8.template)).set g2.toNat (Rule.mk (Form.mk v9.pattern.kind v9.pattern.name (w64 ((w64 (g1 + 1)) + 1)) v9.pattern.scopes v9.pattern.kids) v9.template)).set g2.toNat (Rule.mk (Form.mk v10.pattern.kind v10.pattern.name v10.pattern.n v11.2 v10.pattern.kids) v10.template)).set g2.toNat (Rule.mk (Form.mk v12.pattern.kind v12.pattern.name v12.pattern.n v12.pattern.scopes v13.2) v12.template)).set g2.toNat (Rule.mk v14.pattern (Form.mk v13.1 v14.template.name v14.template.n v14.template.scopes v14.template.kids))) g2).bind fun v16 =>
 (idx (((((((g3.set g2.toNat (Rule.mk (Form.mk g1 v6.pattern.name v6.pattern.n v6.pattern.scopes v6.pattern.kids) v6.template)).set g2.toNat (Rule.mk (Form.mk v8.pattern.kind v7 v8.pattern.n v8.pattern.scopes v8.pattern.kids) v8.template)).set g2.toNat (Rule.mk (Form.mk v9.pattern.kind v9.pattern.name (w64 ((w64 (g1 + 1)) + 1)) v9.pattern.scopes v9.pattern.kids) v9.template)).set g2.toNat (Rule.mk (Form.mk v10.pattern.kind v10.pattern.name v10.pattern.n v11.2 v10.pattern.kids) v10.template)).set g2.toNat (Rule.mk (Form.mk v12.pattern.kind v12.pattern.name v12.pattern.n v12.pattern.scopes v13.2) v12.template)).set g2.toNat (Rule.mk v14.pattern (Form.mk v13.1 v14.template.name v14.template.n v14.template.scopes v14.template.kids))).set g2.toNat (Rule.mk v16.pattern (Form.mk v16.template.kind v15 v16.template.n v16.template.scopes v16.template.kids))) g2).bind fun v17 =>
 (idx ((((((((g3.set g2.toNat (Rule.mk (Form.mk g1 v6.pattern.name v6.pattern.n v6.pattern.scopes v6.pattern.kids) v6.template)).set g2.toNat (Rule.mk (Form.mk v8.pattern.kind v7 v8.pattern.n v8.pattern.scopes v8.pattern.kids) v8.template)).set g2.toNat (Rule.mk (Form.mk v9.pattern.kind v9.pattern.name (w64 ((w64 (g1 + 1)) + 1)) v9.pattern.scopes v9.pattern.kids) v9.template)).set g2.toNat (Rule.mk (Form.mk v10.pattern.kind v10.pattern.name v10.pattern.n v11.2 v10.pattern.kids) v10.template)).set g2.toNat (Rule.mk (Form.mk v12.pattern.kind v12.pattern.name v12.pattern.n v12.pattern.scopes v13.2) v12.template)).set g2.toNat (Rule.mk v14.pattern (Form.mk v13.1 v14.template.name v14.template.n v14.template.scopes v14.template.kids))).set g2.toNat (Rule.mk v16.pattern (Form.mk v16.template.kind v15 v16.template.n v16.template.scopes v16.template.kids))).set g2.toNat (Rule.mk v17.pattern (Form.mk v17.template.kind v17.template.name (w64 ((w64 (v13.1 + 1)) + 1)) v17.template.scopes v17.template.kids))) g2).bind fun v18 =>
 (m_laws_markIntS fuel v18.template.scopes (w64 ((w64 ((w64 (v13.1 + 1)) + 1)) + 1))).bind fun v19 =>
 (idx (((((((((g3.set g2.toNat (Rule.mk (Form.mk g1 v6.pattern.name v6.pattern.n v6.pattern.scopes v6.pattern.kids) v6.template)).set g2.toNat (Rule.mk (Form.mk v8.pattern.kind v7 v8.pattern.n v8.pattern.scopes v8.pattern.kids) v8.template)).set g2.toNat (Rule.mk (Form.mk v9.pattern.kind v9.pattern.name (w64 ((w64 (g1 + 1)) + 1)) v9.pattern.scopes v9.pattern.kids) v9.template)).set g2.toNat (Rule.mk (Form.mk v10.pattern.kind v10.pattern.name v10.pattern.n v11.2 v10.pattern.kids) v10.template)).set g2.toNat (Rule.mk (Form.mk v12.pattern.kind v12.pattern.name v12.pattern.n v12.pattern.scopes v13.2) v12.template)).set g2.toNat (Rule.mk v14.pattern (Form.mk v13.1 v14.template.name v14.template.n v14.template.scopes v14.template.kids))).set g2.toNat (Rule.mk v16.pattern (Form.mk v16.template.kind v15 v16.template.n v16.template.scopes v16.template.kids))).set g2.toNat (Rule.mk v17.pattern (Form.mk v17.template.kind v17.template.name (w64 ((w64 (v13.1 + 1)) + 1)) v17.template.scopes v17.template.kids))).set g2.toNat (Rule.mk v18.pattern (Form.mk v18.template.kind v18.template.name v18.template.n v19.2 v18.template.kids))) g2).bind fun v20 =>
 (m_laws_markFormS fuel v20.template.kids v19.1).bind fun v21 =>
 m_laws_markRuleS_l1 fuel  v21.1 (w64 (g2 + 1)) ((((((((((g3.set g2.toNat (Rule.mk (Form.mk g1 v6.pattern.name v6.pattern.n v6.pattern.scopes v6.pattern.kids) v6.template)).set g2.toNat (Rule.mk (Form.mk v8.pattern.kind v7 v8.pattern.n v8.pattern.scopes v8.pattern.kids) v8.template)).set g2.toNat (Rule.mk (Form.mk v9.pattern.kind v9.pattern.name (w64 ((w64 (g1 + 1)) + 1)) v9.pattern.scopes v9.pattern.kids) v9.template)).set g2.toNat (Rule.mk (Form.mk v10.pattern.kind v10.pattern.name v10.pattern.n v11.2 v10.pattern.kids) v10.template)).set g2.toNat (Rule.mk (Form.mk v12.pattern.kind v12.pattern.name v12.pattern.n v12.pattern.scopes v13.2) v12.template)).set g2.toNat (Rule.mk v14.pattern (Form.mk v13.1 v14.template.name v14.template.n v14.template.scopes v14.template.kids))).set g2.toNat (Rule.mk v16.pattern (Form.mk v16.template.kind v15 v16.template.n v16.template.scopes v16.template.kids))).set g2.toNat (Rule.mk v17.pattern (Form.mk v17.template.kind v17.template.name (w64 ((w64 (v13.1 + 1)) + 1)) v17.template.scopes v17.template.kids))).set g2.toNat (Rule.mk v18.pattern (Form.mk v18.template.kind v18.template.name v18.template.n v19.2 v18.template.kids))).set g2.toNat (Rule.mk v20.pattern (Form.mk v20.template.kind v20.template.name v20.template.n v20.template.scopes v21.2)))
 else
 some (g1, g3))
def m_laws_markRuleS (fuel : Nat) (x1 : (List Rule)) (x2 : Int) : Option (Int × (List Rule)) :=
 m_laws_markRuleS_l1 fuel  x2 0 x1
def m_laws_heldForm (fuel : Nat) (x1 : Form) (x2 : Int) : Option Int :=
 (m_laws_heldIntS fuel x1.scopes x2).bind fun v1 =>
 (bif (decide (v1 < 0)) then
 some (-1)
 else
 (m_laws_heldFormS fuel x1.kids v1).bind fun v3 =>
 (bif (decide (v3 < 0)) then
 some (-1)
 else
 some v3))
def m_laws_heldRuleS_l1 (fuel : Nat) (x1 : (List Rule)) (g1 : Int) (g2 : Int) : Option Int :=
 match fuel with
 | 0 => none
 | fuel + 1 =>
 (bif (decide (g2 < (x1.length : Int))) then
 (idx x1 g2).bind fun v6 =>
 (bif (decide (v6.pattern.kind ≠ g1)) then
 some (-1)
 else
 (idx x1 g2).bind fun v8 =>
 (m_laws_markText fuel (w64 (g1 + 1))).bind fun v9 =>
 (bif (decide (v8.pattern.name ≠ v9)) then
 some (-1)
 else
 (idx x1 g2).bind fun v11 =>
 (bif (decide (v11.pattern.n ≠ (w64 ((w64 (g1 + 1)) + 1)))) then
 some (-1)
 else
 (idx x1 g2).bind fun v13 =>
 (m_laws_heldIntS fuel v13.pattern.scopes (w64 ((w64 ((w64 (g1 + 1)) + 1)) + 1))).bind fun v14 =>
 (bif (decide (v14 < 0)) then
 some (-1)
 else
 (idx x1 g2).bind fun v16 =>
 (m_laws_heldFormS fuel v16.pattern.kids v14).bind fun v17 =>
 (bif (decide (v17 < 0)) then
 some (-1)
 else
 (idx x1 g2).bind fun v19 =>
 (bif (decide (v19.template.kind ≠ v17)) then
 some (-1)
 else
 (idx x1 g2).bind fun v21 =>
 (m_laws_markText fuel (w64 (v17 + 1))).bind fun v22 =>
 (bif (decide (v21.template.name ≠ v22)) then
 some (-1)
 else
 (idx x1 g2).bind fun v24 =>
 (bif (decide (v24.template.n ≠ (w64 ((w64 (v17 + 1)) + 1)))) then
 some (-1)
 else
 (idx x1 g2).bind fun v26 =>
 (m_laws_heldIntS fuel v26.template.scopes (w64 ((w64 ((w64 (v17 + 1)) + 1)) + 1))).bind fun v27 =>
 (bif (decide (v27 < 0)) then
 some (-1)
 else
 (idx x1 g2).bind fun v29 =>
 (m_laws_heldFormS fuel v29.template.kids v27).bind fun v30 =>
 (bif (decide (v30 < 0)) then
 some (-1)
 else
 m_laws_heldRuleS_l1 fuel x1 v30 (g2 + 1)))))))))))
 else
 some g1)
def m_laws_heldRuleS (fuel : Nat) (x1 : (List Rule)) (x2 : Int) : Option Int :=
 m_laws_heldRuleS_l1 fuel x1 x2 0
mutual
def m_laws_FnExactParseRules_j3 (fuel : Nat) (v26 : Int × (List Form)) (v27 : Int × (List Rule)) (g39 : Bool) : Option Bool :=
 match fuel with
 | 0 => none
 | fuel + 1 =>
 (bif g39 then
 some false
 else
 (m_laws_heldFormS fuel v26.2 1).bind fun v42 =>
 (bif (decide (v42 < 0)) then
 some false
 else
 (m_laws_heldRuleS fuel v27.2 v42).bind fun v44 =>
 (bif (decide (v44 < 0)) then
 some false
 else
 (bif (decide (v44 ≠ v27.1)) then
 some false
 else
 some true))))
def m_laws_FnExactParseRules_j2 (fuel : Nat) (x1 : Form) (v4 : (List Form) × (List Rule) × Bool) (v6 : (List Form) × (List Rule) × Bool) (g23 : Bool) : Option Bool :=
 match fuel with
 | 0 => none
 | fuel + 1 =>
 (bif g23 then
 some false
 else
 (m_laws_markFormS fuel v6.1 1).bind fun v26 =>
 (m_laws_markRuleS fuel v6.2.1 v26.1).bind fun v27 =>
 (m_laws_heldFormS fuel v26.2 1).bind fun v28 =>
 (bif (decide (v28 < 0)) then
 some false
 else
 (m_laws_heldRuleS fuel v27.2 v28).bind fun v30 =>
 (bif (decide (v30 < 0)) then
 some false
 else
 (bif (decide (v30 ≠ v27.1)) then
 some false
 else
 (m_laws_toForm fuel x1).bind fun v33 =>
 (m_impl_ParseRules fuel v33).bind fun v34 =>
 (m_laws_eqFormS fuel v34.1 v4.1).bind fun v35 =>
 (bif (!v35) then
 m_laws_FnExactParseRules_j3 fuel v26 v27 true
 else
 (m_laws_eqRuleS fuel v34.2.1 v4.2.1).bind fun v37 =>
 (bif (!v37) then
 m_laws_FnExactParseRules_j3 fuel v26 v27 true
 else
 m_laws_FnExactParseRules_j3 fuel v26 v27 (decide (v34.2.2 ≠ v4.2.2))))))))
def m_laws_FnExactParseRules_j1 (fuel : Nat) (x1 : Form) (v4 : (List Form) × (List Rule) × Bool) (v5 : Form) (v6 : (List Form) × (List Rule) × Bool) (g11 : Bool) : Option Bool :=
 match fuel with
 | 0 => none
 | fuel + 1 =>
 (bif g11 then
 some false
 else
 (m_laws_toForm fuel x1).bind fun v14 =>
 (m_laws_eqForm fuel v5 v14).bind fun v15 =>
 (bif (!v15) then
 some false
 else
 (m_laws_markForm fuel v5 1).bind fun v17 =>
 (bif (decide (v17.1 < 0)) then
 m_laws_FnExactParseRules_j2 fuel x1 v4 v6 true
 else
 (m_laws_eqFormS fuel v6.1 v4.1).bind fun v19 =>
 (bif (!v19) then
 m_laws_FnExactParseRules_j2 fuel x1 v4 v6 true
 else
 (m_laws_eqRuleS fuel v6.2.1 v4.2.1).bind fun v21 =>
 (bif (!v21) then
 m_laws_FnExactParseRules_j2 fuel x1 v4 v6 true
 else
 m_laws_FnExactParseRules_j2 fuel x1 v4 v6 (decide (v6.2.2 ≠ v4.2.2)))))))
end
def m_laws_FnExactParseRules (fuel : Nat) (x1 : Form) : Option Bool :=
 (m_laws_szForm fuel x1 1048576).bind fun v1 =>
 (bif (decide (v1 < 0)) then
 some true
 else
 (m_laws_toForm fuel x1).bind fun v3 =>
 (m_spec_ParseRules fuel v3).bind fun v4 =>
 (m_laws_toForm fuel x1).bind fun v5 =>
 (m_impl_ParseRules fuel v5).bind fun v6 =>
 (m_laws_eqFormS fuel v6.1 v4.1).bind fun v7 =>
 (bif (!v7) then
 m_laws_FnExactParseRules_j1 fuel x1 v4 v5 v6 true
 else
 (m_laws_eqRuleS fuel v6.2.1 v4.2.1).bind fun v9 =>
 (bif (!v9) then
 m_laws_FnExactParseRules_j1 fuel x1 v4 v5 v6 true
 else
 m_laws_FnExactParseRules_j1 fuel x1 v4 v5 v6 (decide (v6.2.2 ≠ v4.2.2)))))
end Go.Abs
