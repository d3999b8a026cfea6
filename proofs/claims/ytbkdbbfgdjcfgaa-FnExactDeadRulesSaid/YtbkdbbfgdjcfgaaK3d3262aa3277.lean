/- A part of the proof: what the functions that the law calls answer, as pure values. -/
import Derived.Test.YtbkdbbfgdjcfgaaK1c4e8e704c39
import Derived.Test.YtbkdbbfgdjcfgaaK8cdd556606c4
import Derived.Test.YtbkdbbfgdjcfgaaKbf0e433deac6
set_option linter.unusedSimpArgs false
set_option linter.unusedVariables false
set_option maxHeartbeats 4000000
namespace Go.Abs
def m_laws_markRuleS_l1 (fuel : Nat) (g1 : Int) (g2 : Int) (g3 : (List Rule)) : Option (Int × (List Rule)) :=
 match fuel with
 | 0 => none
 | fuel + 1 =>
 (bif (decide (g2 < (g3.length : Int))) then
 (idx g3 g2).bind fun v6 =>
 (m_laws_markText fuel (w64 (g1 + 1))).bind fun v7 =>
 (idx (g3.set g2.toNat (Rule.mk (Form.mk g1 v6.pattern.name v6.pattern.n v6.pattern.scopes v6.pattern.kids) v6.template)) g2).bind fun v8 =>
 (idx ((g3.set g2.toNat (Rule.mk (Form.mk g1 v6.pattern.name v6.pattern.n v6.pattern.scopes v6.pattern.kids) v6.template)).set g2.toNat (Rule.mk (Form.mk v8.pattern.kind v7 v8.pattern.n v8.pattern.scopes v8.pattern.kids) v8.template)) g2).bind fun v9 =>
 (idx (((g3.set g2.toNat (Rule.mk (Form.mk g1 v6.pattern.name v6.pattern.n v6.pattern.scopes v6.pattern.kids) v6.template)).set g2.toNat (Rule.mk (Form.mk v8.pattern.kind v7 v8.pattern.n v8.pattern.scopes v8.pattern.kids) v8.template)).set g2.toNat (Rule.mk (Form.mk v9.pattern.kind v9.pattern.name (w64 ((w64 (g1 + 1)) + 1)) v9.pattern.scopes v9.pattern.kids) v9.template)) g2).bind fun v10 =>
 (m_laws_markIntS fuel v10.pattern.scopes (w64 ((w64 ((w64 (g1 + 1)) + 1)) + 1))).bind fun v11 =>
 (idx ((((g3.set g2.toNat (Rule.mk (Form.mk g1 v6.pattern.name v6.pattern.n v6.pattern.scopes v6.pattern.kids) v6.template)).set g2.toNat (Rule.mk (Form.mk v8.pattern.kind v7 v8.pattern.n v8.pattern.scopes v8.pattern.kids) v8.template)).set g2.toNat (Rule.mk (Form.mk v9.pattern.kind v9.pattern.name (w64 ((w64 (g1 + 1)) + 1)) v9.pattern.scopes v9.pattern.kids) v9.template)).set g2.toNat (Rule.mk (Form.mk v10.pattern.kind v10.pattern.name v10.pattern.n v11.2 v10.pattern.kids) v10.template)) g2).bind fun v12 =>
 (m_laws_markFormS fuel v12.pattern.kids v11.1).bind fun v13 =>
 (idx (((((g3.set g2.toNat (Rule.mk (Form.mk g1 v6.pattern.name v6.pattern.n v6.pattern.scopes v6.pattern.kids) v6.template)).set g2.toNat (Rule.mk (Form.mk v8.pattern.kind v7 v8.pattern.n v8.pattern.scopes v8.pattern.kids) v8.template)).set g2.toNat (Rule.mk (Form.mk v9.pattern.kind v9.pattern.name (w64 ((w64 (g1 + 1)) + 1)) v9.pattern.scopes v9.pattern.kids) v9.template)).set g2.toNat (Rule.mk (Form.mk v10.pattern.kind v10.pattern.name v10.pattern.n v11.2 v10.pattern.kids) v10.template)).set g2.toNat (Rule.mk (Form.mk v12.pattern.kind v12.pattern.name v12.pattern.n v12.pattern.scopes v13.2) v12.template)) g2).bind fun v14 =>
 (m_laws_markText fuel (w64 (v13.1 + 1))).bind fun v15 =>
 (idx ((((((g3.set g2.toNat (Rule.mk (Form.mk g1 v6.pattern.name v6.pattern.n v6.pattern.scopes v6.pattern.kids) v6.template)).set g2.toNat (Rule.mk (Form.mk v8.pattern.kind v7 v8.pattern.n v8.pattern.scopes v8.pattern.kids) v8.template)).set g2.toNat (Rule.mk (Form.mk v9.pattern.kind v9.pattern.name (w64 ((w64 (g1 + 1)) + 1)) v9.pattern.scopes v9.pattern.kids) v9.template)).set g2.toNat (Rule.mk (Form.mk v10.pattern.kind v10.pattern.name v10.pattern.n v11.2 v10.pattern.kids) v10.template)).set g2.toNat (Rule.mk (Form.mk v12.pattern.kind v12.pattern.name v12.pattern.n v12.pattern.scopes v13.2) v12.template)).set g2.toNat (Rule.mk v14.pattern (Form.mk v13.1 v14.template.name v14.template.n v14.template.scopes v14.template.kids))) g2).bind fun v16 =>
 (idx (((((((g3.set g2.toNat (Rule.mk (Form.mk g1 v6.pattern.name v6.pattern.n v6.pattern.scopes v6.pattern.kids) v6.template)).set g2.toNat (Rule.mk (Form.mk v8.pattern.kind v7 v8.pattern.n v8.pattern.scopes v8.pattern.kids) v8.template)).set g2.toNat (Rule.mk (Form.mk v9.pattern.kind v9.pattern.name (w64 ((w64 (g1 + 1)) + 1)) v9.pattern.scopes v9.pattern.kids) v9.template)).set g2.toNat (Rule.mk (Form.mk v10.pattern.kind v10.pattern.name v10.pattern.n v11.2 v10.pattern.kids) v10.template)).set g2.toNat (Rule.mk (Form.mk v12.pattern.kind v12.pattern.name v12.pattern.n v12.pattern.scopes v13.2) v12.template)).set g2.toNat (Rule.mk v14.pattern (Form.mk v13.1 v14.template.name v14.template.n v14.template.scopes v14.template.kids))).set g2.toNat (Rule.mk v16.pattern (Form.mk v16.template.kind v15 v16.template.n v16.template.scopes v16.template.kids))) g2).bind fun v17 =>
 (idx ((((((((g3.set g2.toNat (Rule.mk (Form.mk g1 v6.pattern.name v6.pattern.n v6.pattern.scopes v6.pattern.kids) v6.template)).set g2.toNat (Rule.mk (Form.mk v8.pattern.kind v7 v8.pattern.n v8.pattern.scopes v8.pattern.kids) v8.template)).set g2.toNat (Rule.mk (Form.mk v9.pattern.kind v9.pattern.name (w64 ((w64 (g1 + 1)) + 1)) v9.pattern.scopes v9.pattern.kids) v9.template)).set g2.toNat (Rule.mk (Form.mk v10.pattern.kind v10.pattern.name v10.pattern.n v11.2 v10.pattern.kids) v10.template)).set g2.toNat (Rule.mk (Form.mk v12.pattern.kind v12.pattern.name v12.pattern.n v12.pattern.scopes v13.2) v12.template)).set g2.toNat (Rule.mk v14.pattern (Form.mk v13.1 v14.template.name v14.template.n v14.template.scopes v14.template.kids))).set g2.toNat (Rule.mk v16.pattern (Form.mk v16.template.kind v15 v16.template.n v16.template.scopes v16.template.kids))).set g2.toNat (Rule.mk v17.pattern (Form.mk v17.template.kind v17.template.name (w64 ((w64 (v13.1 + 1)) + 1)) v17.template.scopes v17.template.kids))) g2).bind fun v18 =>
 (m_laws_markIntS fuel v18.template.scopes (w64 ((w64 ((w64 (v13.1 + 1)) + 1)) + 1))).bind fun v19 =>
 (idx (((((((((g3.set g2.toNat (Rule.mk (Form.mk g1 v6.pattern.name v6.pattern.n v6.pattern.scopes v6.pattern.kids) v6.template)).set g2.toNat (Rule.mk (Form.mk v8.pattern.kind v7 v8.pattern.n v8.pattern.scopes v8.pattern.kids) v8.template)).set g2.toNat (Rule.mk (Form.mk v9.pattern.kind v9.pattern.name (w64 ((w64 (g1 + 1)) + 1)) v9.pattern.scopes v9.pattern.kids) v9.template)).set g2.toNat (Rule.mk (Form.mk v10.pattern.kind v10.pattern.name v10.pattern.n v11.2 v10.pattern.kids) v10.template)).set g2.toNat (Rule.mk (Form.mk v12.pattern.kind v12.pattern.name v12.pattern.n v12.pattern.scopes v13.2) v12.template)).set g2.toNat (Rule.mk v14.pattern (Form.mk v13.1 v14.template.name v14.template.n v14.template.scopes v14.template.kids))).set g2.toNat (Rule.mk v16.pattern (Form.mk v16.template.kind v15 v16.template.n v16.template.scopes v16.template.kids))).set g2.toNat (Rule.mk v17.pattern (Form.mk v17.template.kind v17.template.name (w64 ((w64 (v13.1 + 1)) + 1)) v17.template.scopes v17.template.kids))).set g2.toNat (Rule.mk v18.pattern (Form.mk v18.template.kind v18.template.name v18.template.n v19.2 v18.template.kids))) g2).bind fun v20 =>
 (m_laws_markFormS fuel v20.template.kids v19.1).bind fun v21 =>
 m_laws_markRuleS_l1 fuel  v21.1 (w64 (g2 + 1)) ((((((((((g3.set g2.toNat (Rule.mk (Form.mk g1 v6.pattern.name v6.pattern.n v6.pattern.scopes v6.pattern.kids) v6.template)).set g2.toNat (Rule.mk (Form.mk v8.pattern.kind v7 v8.pattern.n v8.pattern.scopes v8.pattern.kids) v8.template)).set g2.toNat (Rule.mk (Form.mk v9.pattern.kind v9.pattern.name (w64 ((w64 (g1 + 1)) + 1)) v9.pattern.scopes v9.pattern.kids) v9.template)).set g2.toNat (Rule.mk (Form.mk v10.pattern.kind v10.pattern.name v10.pattern.n v11.2 v10.pattern.kids) v10.template)).set g2.toNat (Rule.mk (Form.mk v12.pattern.kind v12.pattern.name v12.pattern.n v12.pattern.scopes v13.2) v12.template)).set g2.toNat (Rule.mk v14.pattern (Form.mk v13.1 v14.template.name v14.template.n v14.template.scopes v14.template.kids))).set g2.toNat (Rule.mk v16.pattern (Form.mk v16.template.kind v15 v16.template.n v16.template.scopes v16.template.kids))).set g2.toNat (Rule.mk v17.pattern (Form.mk v17.template.kind v17.template.name (w64 ((w64 (v13.1 + 1)) + 1)) v17.template.scopes v17.template.kids))).set g2.toNat (Rule.mk v18.pattern (Form.mk v18.template.kind v18.template.name v18.template.n v19.2 v18.template.kids))).set g2.toNat (Rule.mk v20.pattern (Form.mk v20.template.kind v20.template.name v20.template.n v20.template.scopes v21.2)))
 else
 some (g1, g3))
def m_laws_markRuleS (fuel : Nat) (x1 : (List Rule)) (x2 : Int) : Option (Int × (List Rule)) :=
 m_laws_markRuleS_l1 fuel  x2 0 x1
def m_laws_FnExactDeadRules_j1 (fuel : Nat) (x1 : (List Rule)) (x2 : (List Form)) (v7 : (List Int)) (v10 : (List Int)) (g23 : Bool) : Option Bool :=
 match fuel with
 | 0 => none
 | fuel + 1 =>
 (bif g23 then
 some false
 else
 (m_laws_markIntS fuel v10 1).bind fun v26 =>
 (m_laws_heldIntS fuel v26.2 1).bind fun v27 =>
 (bif (decide (v27 < 0)) then
 some false
 else
 (bif (decide (v27 ≠ v26.1)) then
 some false
 else
 (m_laws_toRuleS fuel x1).bind fun v30 =>
 (m_laws_toFormS fuel x2).bind fun v31 =>
 (m_impl_DeadRules fuel v30 v31).bind fun v32 =>
 (m_laws_eqIntS fuel v32 v7).bind fun v33 =>
 (bif (!v33) then
 some false
 else
 (m_laws_heldIntS fuel v26.2 1).bind fun v35 =>
 (bif (decide (v35 < 0)) then
 some false
 else
 (bif (decide (v35 ≠ v26.1)) then
 some false
 else
 some true))))))
def m_laws_FnExactDeadRules (fuel : Nat) (x1 : (List Rule)) (x2 : (List Form)) : Option Bool :=
 (m_laws_szRuleS fuel x1 1048576).bind fun v1 =>
 (bif (decide (v1 < 0)) then
 some true
 else
 (m_laws_szFormS fuel x2 v1).bind fun v3 =>
 (bif (decide (v3 < 0)) then
 some true
 else
 (m_laws_toRuleS fuel x1).bind fun v5 =>
 (m_laws_toFormS fuel x2).bind fun v6 =>
 (m_spec_DeadRules fuel v5 v6).bind fun v7 =>
 (m_laws_toRuleS fuel x1).bind fun v8 =>
 (m_laws_toFormS fuel x2).bind fun v9 =>
 (m_impl_DeadRules fuel v8 v9).bind fun v10 =>
 (m_laws_eqIntS fuel v10 v7).bind fun v11 =>
 (bif (!v11) then
 some false
 else
 (m_laws_toRuleS fuel x1).bind fun v13 =>
 (m_laws_eqRuleS fuel v8 v13).bind fun v14 =>
 (bif (!v14) then
 some false
 else
 (m_laws_toFormS fuel x2).bind fun v16 =>
 (m_laws_eqFormS fuel v9 v16).bind fun v17 =>
 (bif (!v17) then
 some false
 else
 (m_laws_markRuleS fuel v8 1).bind fun v19 =>
 (m_laws_markFormS fuel v9 v19.1).bind fun v20 =>
 (bif (decide (v20.1 < 0)) then
 m_laws_FnExactDeadRules_j1 fuel x1 x2 v7 v10 true
 else
 (m_laws_eqIntS fuel v10 v7).bind fun v22 =>
 m_laws_FnExactDeadRules_j1 fuel x1 x2 v7 v10 (!v22)))))))
def m_laws_heldRuleS_l1 (fuel : Nat) (x1 : (List Rule)) (g1 : Int) (g2 : Int) : Option Int :=
 match fuel with
 | 0 => none
 | fuel + 1 =>
 (bif (decide (g2 < (x1.length : Int))) then
 (idx x1 g2).bind fun v6 =>
 (bif (decide (v6.pattern.kind ≠ g1)) then
 some (-1)
 else
 (idx x1 g2).bind fun v8 =>
 (m_laws_markText fuel (w64 (g1 + 1))).bind fun v9 =>
 (bif (decide (v8.pattern.name ≠ v9)) then
 some (-1)
 else
 (idx x1 g2).bind fun v11 =>
 (bif (decide (v11.pattern.n ≠ (w64 ((w64 (g1 + 1)) + 1)))) then
 some (-1)
 else
 (idx x1 g2).bind fun v13 =>
 (m_laws_heldIntS fuel v13.pattern.scopes (w64 ((w64 ((w64 (g1 + 1)) + 1)) + 1))).bind fun v14 =>
 (bif (decide (v14 < 0)) then
 some (-1)
 else
 (idx x1 g2).bind fun v16 =>
 (m_laws_heldFormS fuel v16.pattern.kids v14).bind fun v17 =>
 (bif (decide (v17 < 0)) then
 some (-1)
 else
 (idx x1 g2).bind fun v19 =>
 (bif (decide (v19.template.kind ≠ v17)) then
 some (-1)
 else
 (idx x1 g2).bind fun v21 =>
 (m_laws_markText fuel (w64 (v17 + 1))).bind fun v22 =>
 (bif (decide (v21.template.name ≠ v22)) then
 some (-1)
 else
 (idx x1 g2).bind fun v24 =>
 (bif (decide (v24.template.n ≠ (w64 ((w64 (v17 + 1)) + 1)))) then
 some (-1)
 else
 (idx x1 g2).bind fun v26 =>
 (m_laws_heldIntS fuel v26.template.scopes (w64 ((w64 ((w64 (v17 + 1)) + 1)) + 1))).bind fun v27 =>
 (bif (decide (v27 < 0)) then
 some (-1)
 else
 (idx x1 g2).bind fun v29 =>
 (m_laws_heldFormS fuel v29.template.kids v27).bind fun v30 =>
 (bif (decide (v30 < 0)) then
 some (-1)
 else
 m_laws_heldRuleS_l1 fuel x1 v30 (g2 + 1)))))))))))
 else
 some g1)
def m_laws_heldRuleS (fuel : Nat) (x1 : (List Rule)) (x2 : Int) : Option Int :=
 m_laws_heldRuleS_l1 fuel x1 x2 0
end Go.Abs
