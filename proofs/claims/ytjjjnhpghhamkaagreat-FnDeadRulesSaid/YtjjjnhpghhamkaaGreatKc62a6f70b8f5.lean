/- A part of the proof: what the functions that the law calls answer, as pure values. -/
import Derived.Test.YtjjjnhpghhamkaaGreatK07f4536f4c0e
import Derived.Test.YtjjjnhpghhamkaaGreatK538f51ad5e1b
import Derived.Test.YtjjjnhpghhamkaaGreatKd3a9ca3717a2
set_option linter.unusedSimpArgs false
set_option linter.unusedVariables false
set_option maxHeartbeats 4000000
namespace Go.Abs
def m_impl_FirstRule (fuel : Nat) (x1 : (List Bind)) (x2 : (List Rule)) (x3 : (List Form)) (x4 : Form) : Option (Int × Bool) :=
 (m_impl_BindsValid fuel x1).bind fun v1 =>
 (bif (!v1) then
 m_impl_FirstRule_j1 fuel x1 x2 x3 x4 true
 else
 (m_impl_rulesOk fuel x2 x3).bind fun v3 =>
 (bif (!v3) then
 m_impl_FirstRule_j1 fuel x1 x2 x3 x4 true
 else
 (m_impl_FormValid fuel x4).bind fun v5 =>
 m_impl_FirstRule_j1 fuel x1 x2 x3 x4 (!v5)))
def m_spec_DrawFirstRule (fuel : Nat) (x1 : (List Int)) : Option ((List Bind) × (List Rule) × (List Form) × Form) :=
 (m_spec_l5Case fuel x1).bind fun v1 =>
 some (([] : List Bind), v1.2.1, v1.1, v1.2.2)
def m_spec_DrawDeadRules (fuel : Nat) (x1 : (List Int)) : Option ((List Rule) × (List Form)) :=
 (m_spec_l5Case fuel x1).bind fun v1 =>
 (m_spec_l15Open fuel x1).bind fun v2 =>
 (m_spec_l15Rd_pick fuel v2 2).bind fun v3 =>
 (bif (decide (v3.1 = 0)) then
 (m_spec_l15Rd_pick fuel v3.2 (v1.2.1.length : Int)).bind fun v5 =>
 (idx v1.2.1 v5.1).bind fun v6 =>
 chk (decide ((v1.2.1.length + [v6].length) * 160 ≤ 140737488355328)) <|
 some ((v1.2.1 ++ [v6]), v1.1)
 else
 some (v1.2.1, v1.1))
mutual
def m_impl_general (fuel : Nat) (x1 : Form) (x2 : Form) (x3 : (List Form)) : Option Bool :=
 match fuel with
 | 0 => none
 | fuel + 1 =>
 (m_impl_isVar fuel x1 x3).bind fun v1 =>
 (bif v1 then
 m_impl_general_j1 fuel x1 x2 x3 true
 else
 (m_impl_named fuel x1 (⟨#[95]⟩ : ByteArray)).bind fun v3 =>
 m_impl_general_j1 fuel x1 x2 x3 v3)
def m_impl_general_l3 (fuel : Nat) (x1 : Form) (x2 : Form) (x3 : (List Form)) (g13 : Int) : Option Bool :=
 match fuel with
 | 0 => none
 | fuel + 1 =>
 (bif (decide (g13 < (x1.kids.length : Int))) then
 (idx x1.kids g13).bind fun v17 =>
 (m_impl_named fuel v17 (⟨#[46, 46, 46]⟩ : ByteArray)).bind fun v18 =>
 (idx x2.kids g13).bind fun v19 =>
 (m_impl_named fuel v19 (⟨#[46, 46, 46]⟩ : ByteArray)).bind fun v20 =>
 (bif (decide (v18 ≠ v20)) then
 some false
 else
 (bif (!v18) then
 (idx x2.kids g13).bind fun v23 =>
 (m_impl_general fuel v17 v23 x3).bind fun v24 =>
 (bif (!v24) then
 some false
 else
 m_impl_general_l3 fuel x1 x2 x3 (g13 + 1))
 else
 m_impl_general_l3 fuel x1 x2 x3 (g13 + 1)))
 else
 some true)
def m_impl_general_j2 (fuel : Nat) (x1 : Form) (x2 : Form) (x3 : (List Form)) (g10 : Bool) : Option Bool :=
 match fuel with
 | 0 => none
 | fuel + 1 =>
 (bif g10 then
 some false
 else
 m_impl_general_l3 fuel x1 x2 x3 0)
def m_impl_general_j1 (fuel : Nat) (x1 : Form) (x2 : Form) (x3 : (List Form)) (g4 : Bool) : Option Bool :=
 match fuel with
 | 0 => none
 | fuel + 1 =>
 (bif g4 then
 some true
 else
 (bif (decide (x1.kind ≠ 3)) then
 (m_impl_FormSame fuel x1 x2).bind fun v8 =>
 some v8
 else
 (bif (decide (x2.kind ≠ 3)) then
 m_impl_general_j2 fuel x1 x2 x3 true
 else
 m_impl_general_j2 fuel x1 x2 x3 (decide ((x1.kids.length : Int) ≠ (x2.kids.length : Int))))))
end
def m_impl_DeadRules_1 (fuel : Nat) (x1 : Rule) (o1 : Rule) (o2 : (List Form)) : Option Bool :=
 (m_impl_general fuel x1.pattern o1.pattern o2).bind fun v1 =>
 some v1
def m_slices_IndexFunc_Rule_DeadRules_1_l1 (fuel : Nat) (x1 : (List Rule)) (o1 : Rule) (o2 : (List Form)) (g1 : Int) : Option Int :=
 match fuel with
 | 0 => none
 | fuel + 1 =>
 (bif (decide (g1 < (x1.length : Int))) then
 (idx x1 g1).bind fun v5 =>
 (m_impl_DeadRules_1 fuel v5 o1 o2).bind fun v6 =>
 (bif v6 then
 some g1
 else
 m_slices_IndexFunc_Rule_DeadRules_1_l1 fuel x1 o1 o2 (g1 + 1))
 else
 some (-1))
def m_slices_IndexFunc_Rule_DeadRules_1 (fuel : Nat) (x1 : (List Rule)) (o1 : Rule) (o2 : (List Form)) : Option Int :=
 m_slices_IndexFunc_Rule_DeadRules_1_l1 fuel x1 o1 o2 0
def m_slices_ContainsFunc_Rule_DeadRules_1 (fuel : Nat) (x1 : (List Rule)) (o1 : Rule) (o2 : (List Form)) : Option Bool :=
 (m_slices_IndexFunc_Rule_DeadRules_1 fuel x1 o1 o2).bind fun v1 =>
 some (decide (0 ≤ v1))
def m_impl_DeadRules_l1 (fuel : Nat) (x1 : (List Rule)) (x2 : (List Form)) (g3 : (List Int)) (g4 : Int) : Option (List Int) :=
 match fuel with
 | 0 => none
 | fuel + 1 =>
 (bif (decide (g4 < (x1.length : Int))) then
 (idx x1 g4).bind fun v8 =>
 (sub x1 0 g4).bind fun v9 =>
 (m_slices_ContainsFunc_Rule_DeadRules_1 fuel v9 v8 x2).bind fun v10 =>
 (bif v10 then
 chk (decide ((g3.length + [g4].length) * 8 ≤ 140737488355328)) <|
 m_impl_DeadRules_l1 fuel x1 x2 (g3 ++ [g4]) (g4 + 1)
 else
 m_impl_DeadRules_l1 fuel x1 x2 g3 (g4 + 1))
 else
 some g3)
def m_impl_DeadRules (fuel : Nat) (x1 : (List Rule)) (x2 : (List Form)) : Option (List Int) :=
 (m_impl_rulesOk fuel x1 x2).bind fun v1 =>
 (bif (!v1) then
 some ([] : List Int)
 else
 m_impl_DeadRules_l1 fuel x1 x2 ([] : List Int) 0)
mutual
def m_spec_l5General (fuel : Nat) (x1 : Form) (x2 : Form) (x3 : (List Form)) : Option Bool :=
 match fuel with
 | 0 => none
 | fuel + 1 =>
 (bif (decide (x2.kind = 1)) then
 (bif (decide (x2.name ≠ (⟨#[46, 46, 46]⟩ : ByteArray))) then
 (m_spec_l4In fuel x3 x2).bind fun v3 =>
 (bif (!v3) then
 some true
 else
 m_spec_l5General_j1 fuel x1 x2 x3 )
 else
 m_spec_l5General_j1 fuel x1 x2 x3 )
 else
 m_spec_l5General_j1 fuel x1 x2 x3 )
def m_spec_l5General_l3 (fuel : Nat) (x1 : Form) (x2 : Form) (x3 : (List Form)) (g12 : Int) : Option Bool :=
 match fuel with
 | 0 => none
 | fuel + 1 =>
 (bif (decide (g12 < (x1.kids.length : Int))) then
 (idx x1.kids g12).bind fun v16 =>
 (m_spec_l4Dots fuel v16).bind fun v17 =>
 (idx x2.kids g12).bind fun v18 =>
 (m_spec_l4Dots fuel v18).bind fun v19 =>
 (bif (decide (v17 ≠ v19)) then
 some false
 else
 (idx x1.kids g12).bind fun v21 =>
 (m_spec_l4Dots fuel v21).bind fun v22 =>
 (bif (!v22) then
 (idx x1.kids g12).bind fun v24 =>
 (idx x2.kids g12).bind fun v25 =>
 (m_spec_l5General fuel v24 v25 x3).bind fun v26 =>
 (bif (!v26) then
 some false
 else
 m_spec_l5General_l3 fuel x1 x2 x3 (g12 + 1))
 else
 m_spec_l5General_l3 fuel x1 x2 x3 (g12 + 1)))
 else
 some true)
def m_spec_l5General_j2 (fuel : Nat) (x1 : Form) (x2 : Form) (x3 : (List Form)) (g9 : Bool) : Option Bool :=
 match fuel with
 | 0 => none
 | fuel + 1 =>
 (bif g9 then
 some false
 else
 m_spec_l5General_l3 fuel x1 x2 x3 0)
def m_spec_l5General_j1 (fuel : Nat) (x1 : Form) (x2 : Form) (x3 : (List Form)) : Option Bool :=
 match fuel with
 | 0 => none
 | fuel + 1 =>
 (bif (decide (x2.kind ≠ 3)) then
 (m_spec_FormSame fuel x1 x2).bind fun v7 =>
 some v7
 else
 (bif (decide (x1.kind ≠ 3)) then
 m_spec_l5General_j2 fuel x1 x2 x3 true
 else
 m_spec_l5General_j2 fuel x1 x2 x3 (decide ((x1.kids.length : Int) ≠ (x2.kids.length : Int)))))
end
mutual
def m_spec_DeadRules_j5 (fuel : Nat) (x1 : (List Rule)) (x2 : (List Form)) (g1 : (List Int)) (g2 : Int) (g9 : Bool) (g10 : Int) (g13 : Bool) : Option (List Int) :=
 match fuel with
 | 0 => none
 | fuel + 1 =>
 (bif g13 then
 (idx x1 g2).bind fun v16 =>
 (idx x1 g10).bind fun v17 =>
 (m_spec_l5General fuel v16.pattern v17.pattern x2).bind fun v18 =>
 m_spec_DeadRules_l4 fuel x1 x2 g1 g2 v18 (w64 (g10 + 1))
 else
 m_spec_DeadRules_j3 fuel x1 x2 g1 g2 g9)
def m_spec_DeadRules_l4 (fuel : Nat) (x1 : (List Rule)) (x2 : (List Form)) (g1 : (List Int)) (g2 : Int) (g9 : Bool) (g10 : Int) : Option (List Int) :=
 match fuel with
 | 0 => none
 | fuel + 1 =>
 (bif (decide (g10 < g2)) then
 m_spec_DeadRules_j5 fuel x1 x2 g1 g2 g9 g10 (!g9)
 else
 m_spec_DeadRules_j5 fuel x1 x2 g1 g2 g9 g10 false)
def m_spec_DeadRules_j3 (fuel : Nat) (x1 : (List Rule)) (x2 : (List Form)) (g1 : (List Int)) (g2 : Int) (g19 : Bool) : Option (List Int) :=
 match fuel with
 | 0 => none
 | fuel + 1 =>
 (bif g19 then
 chk (decide ((g1.length + [g2].length) * 8 ≤ 140737488355328)) <|
 m_spec_DeadRules_l1 fuel x1 x2 (g1 ++ [g2]) (w64 (g2 + 1))
 else
 m_spec_DeadRules_l1 fuel x1 x2 g1 (w64 (g2 + 1)))
def m_spec_DeadRules_j2 (fuel : Nat) (x1 : (List Rule)) (x2 : (List Form)) (g1 : (List Int)) (g2 : Int) (g6 : Bool) : Option (List Int) :=
 match fuel with
 | 0 => none
 | fuel + 1 =>
 (bif g6 then
 m_spec_DeadRules_l4 fuel x1 x2 g1 g2 false 0
 else
 some g1)
def m_spec_DeadRules_l1 (fuel : Nat) (x1 : (List Rule)) (x2 : (List Form)) (g1 : (List Int)) (g2 : Int) : Option (List Int) :=
 match fuel with
 | 0 => none
 | fuel + 1 =>
 (bif (decide (g2 < (x1.length : Int))) then
 (m_spec_l5Rules fuel x1 x2).bind fun v5 =>
 m_spec_DeadRules_j2 fuel x1 x2 g1 g2 v5
 else
 m_spec_DeadRules_j2 fuel x1 x2 g1 g2 false)
end
def m_spec_DeadRules (fuel : Nat) (x1 : (List Rule)) (x2 : (List Form)) : Option (List Int) :=
 m_spec_DeadRules_l1 fuel x1 x2 ([] : List Int) 0
def m_laws_mxIn_l1 (fuel : Nat) (x1 : (List Int)) (x2 : Int) (g1 : Int) : Option Bool :=
 match fuel with
 | 0 => none
 | fuel + 1 =>
 (bif (decide (g1 < (x1.length : Int))) then
 (idx x1 g1).bind fun v5 =>
 (bif (decide (v5 = x2)) then
 some true
 else
 m_laws_mxIn_l1 fuel x1 x2 (g1 + 1))
 else
 some false)
def m_laws_mxIn (fuel : Nat) (x1 : (List Int)) (x2 : Int) : Option Bool :=
 m_laws_mxIn_l1 fuel x1 x2 0
def m_laws_FnDeadRules_j1 (fuel : Nat) (x1 : (List Int)) (x2 : (List Int)) (g2 : Bool) : Option Bool :=
 match fuel with
 | 0 => none
 | fuel + 1 =>
 (bif g2 then
 some true
 else
 (m_spec_DrawDeadRules fuel x1).bind fun v5 =>
 (m_impl_DeadRules fuel v5.1 v5.2).bind fun v6 =>
 (m_spec_DeadRules fuel v5.1 v5.2).bind fun v7 =>
 (m_laws_mxInts fuel v6 v7).bind fun v8 =>
 (bif (!v8) then
 some false
 else
 (m_spec_DrawFirstRule fuel x2).bind fun v10 =>
 (m_impl_FirstRule fuel ([] : List Bind) v5.1 v5.2 v10.2.2.2).bind fun v11 =>
 (bif (!v11.2) then
 some true
 else
 (m_laws_mxIn fuel v6 v11.1).bind fun v13 =>
 some (!v13))))
def m_laws_FnDeadRules (fuel : Nat) (x1 : (List Int)) (x2 : (List Int)) : Option Bool :=
 (bif (decide (1048576 < (x1.length : Int))) then
 m_laws_FnDeadRules_j1 fuel x1 x2 true
 else
 m_laws_FnDeadRules_j1 fuel x1 x2 (decide (1048576 < (x2.length : Int))))
end Go.Abs
