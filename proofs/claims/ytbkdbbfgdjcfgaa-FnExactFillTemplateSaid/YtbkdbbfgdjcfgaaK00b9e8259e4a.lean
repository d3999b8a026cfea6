/- A part of the proof: what the functions that the law calls answer, as pure values. -/
import Derived.Test.YtbkdbbfgdjcfgaaK69e8a0ebd724
import Derived.Test.YtbkdbbfgdjcfgaaKe8177d545ea5
set_option linter.unusedSimpArgs false
set_option linter.unusedVariables false
set_option maxHeartbeats 4000000
namespace Go.Abs
def m_impl_varsOf (fuel : Nat) (x1 : Form) (x2 : (List Form)) : Option ((List Form) × (List Int)) :=
 (m_impl_patternVars fuel x1 x2 0 ([] : List Form) ([] : List Int)).bind fun v1 =>
 some (v1.1, v1.2)
mutual
def m_spec_l1Copy (fuel : Nat) (x1 : Form) : Option Form :=
 match fuel with
 | 0 => none
 | fuel + 1 =>
 chk (decide ((([] : List Int).length + x1.scopes.length) * 8 ≤ 140737488355328)) <|
 m_spec_l1Copy_l1 fuel x1 0 ([] : List Form)
def m_spec_l1Copy_l1 (fuel : Nat) (x1 : Form) (g2 : Int) (g3 : (List Form)) : Option Form :=
 match fuel with
 | 0 => none
 | fuel + 1 =>
 (bif (decide (g2 < (x1.kids.length : Int))) then
 (idx x1.kids g2).bind fun v7 =>
 (m_spec_l1Copy fuel v7).bind fun v8 =>
 chk (decide ((g3.length + [v8].length) * 80 ≤ 140737488355328)) <|
 m_spec_l1Copy_l1 fuel x1 (g2 + 1) (g3 ++ [v8])
 else
 some (Form.mk x1.kind x1.name x1.n (([] : List Int) ++ x1.scopes) g3))
end
def m_slices_Clone_int (fuel : Nat) (x1 : (List Int)) : Option (List Int) :=
 chk (decide ((([] : List Int).length + x1.length) * 8 ≤ 140737488355328)) <|
 some (([] : List Int) ++ x1)
mutual
def m_impl_copyForm (fuel : Nat) (x1 : Form) : Option Form :=
 match fuel with
 | 0 => none
 | fuel + 1 =>
 (m_slices_Clone_int fuel x1.scopes).bind fun v1 =>
 m_impl_copyForm_l1 fuel x1 v1 0 ([] : List Form)
def m_impl_copyForm_l1 (fuel : Nat) (x1 : Form) (v1 : (List Int)) (g2 : Int) (g3 : (List Form)) : Option Form :=
 match fuel with
 | 0 => none
 | fuel + 1 =>
 (bif (decide (g2 < (x1.kids.length : Int))) then
 (idx x1.kids g2).bind fun v7 =>
 (m_impl_copyForm fuel v7).bind fun v8 =>
 chk (decide ((g3.length + [v8].length) * 80 ≤ 140737488355328)) <|
 m_impl_copyForm_l1 fuel x1 v1 (g2 + 1) (g3 ++ [v8])
 else
 some (Form.mk x1.kind x1.name x1.n v1 g3))
end
mutual
def m_spec_l15OwnForm (fuel : Nat) (x1 : Form) : Option Form :=
 match fuel with
 | 0 => none
 | fuel + 1 =>
 chk (decide ((([] : List Int).length + x1.scopes.length) * 8 ≤ 140737488355328)) <|
 (m_spec_l15OwnListForm fuel x1.kids).bind fun v2 =>
 some (Form.mk x1.kind x1.name x1.n (([] : List Int) ++ x1.scopes) v2)
def m_spec_l15OwnListForm (fuel : Nat) (x1 : (List Form)) : Option (List Form) :=
 match fuel with
 | 0 => none
 | fuel + 1 =>
 m_spec_l15OwnListForm_l1 fuel x1 ([] : List Form) 0
def m_spec_l15OwnListForm_l1 (fuel : Nat) (x1 : (List Form)) (g1 : (List Form)) (g2 : Int) : Option (List Form) :=
 match fuel with
 | 0 => none
 | fuel + 1 =>
 (bif (decide (g2 < (x1.length : Int))) then
 (idx x1 g2).bind fun v6 =>
 (m_spec_l15OwnForm fuel v6).bind fun v7 =>
 chk (decide ((g1.length + [v7].length) * 80 ≤ 140737488355328)) <|
 m_spec_l15OwnListForm_l1 fuel x1 (g1 ++ [v7]) (g2 + 1)
 else
 some g1)
end
def m_impl_BindsValid_1 (fuel : Nat) (x1 : Bind) (o1 : Bind) : Option Bool :=
 (bif (decide (x1.name = o1.name)) then
 (m_slices_Equal_int fuel x1.scopes o1.scopes).bind fun v2 =>
 some v2
 else
 some false)
def m_slices_IndexFunc_Bind_BindsValid_1_l1 (fuel : Nat) (x1 : (List Bind)) (o1 : Bind) (g1 : Int) : Option Int :=
 match fuel with
 | 0 => none
 | fuel + 1 =>
 (bif (decide (g1 < (x1.length : Int))) then
 (idx x1 g1).bind fun v5 =>
 (m_impl_BindsValid_1 fuel v5 o1).bind fun v6 =>
 (bif v6 then
 some g1
 else
 m_slices_IndexFunc_Bind_BindsValid_1_l1 fuel x1 o1 (g1 + 1))
 else
 some (-1))
def m_slices_IndexFunc_Bind_BindsValid_1 (fuel : Nat) (x1 : (List Bind)) (o1 : Bind) : Option Int :=
 m_slices_IndexFunc_Bind_BindsValid_1_l1 fuel x1 o1 0
def m_slices_ContainsFunc_Bind_BindsValid_1 (fuel : Nat) (x1 : (List Bind)) (o1 : Bind) : Option Bool :=
 (m_slices_IndexFunc_Bind_BindsValid_1 fuel x1 o1).bind fun v1 =>
 some (decide (0 ≤ v1))
mutual
def m_impl_BindsValid_j2 (fuel : Nat) (x1 : (List Bind)) (g1 : Int) (v5 : Bind) (g11 : Bool) : Option Bool :=
 match fuel with
 | 0 => none
 | fuel + 1 =>
 (bif g11 then
 some false
 else
 (sub x1 0 g1).bind fun v14 =>
 (m_slices_ContainsFunc_Bind_BindsValid_1 fuel v14 v5).bind fun v15 =>
 (bif v15 then
 some false
 else
 m_impl_BindsValid_l1 fuel x1 (g1 + 1)))
def m_impl_BindsValid_l1 (fuel : Nat) (x1 : (List Bind)) (g1 : Int) : Option Bool :=
 match fuel with
 | 0 => none
 | fuel + 1 =>
 (bif (decide (g1 < (x1.length : Int))) then
 (idx x1 g1).bind fun v5 =>
 (m_impl_NameValid fuel v5.name).bind fun v6 =>
 (bif (!v6) then
 m_impl_BindsValid_j2 fuel x1 g1 v5 true
 else
 (m_impl_scopesOk fuel v5.scopes).bind fun v8 =>
 (bif (!v8) then
 m_impl_BindsValid_j2 fuel x1 g1 v5 true
 else
 (m_impl_within fuel v5.id 1 999).bind fun v10 =>
 m_impl_BindsValid_j2 fuel x1 g1 v5 (!v10)))
 else
 some (decide ((x1.length : Int) ≤ 60)))
end
def m_impl_BindsValid (fuel : Nat) (x1 : (List Bind)) : Option Bool :=
 m_impl_BindsValid_l1 fuel x1 0
def m_slices_Index_int_l1 (fuel : Nat) (x1 : (List Int)) (x2 : Int) (g1 : Int) : Option Int :=
 match fuel with
 | 0 => none
 | fuel + 1 =>
 (bif (decide (g1 < (x1.length : Int))) then
 (idx x1 g1).bind fun v5 =>
 (bif (decide (x2 = v5)) then
 some g1
 else
 m_slices_Index_int_l1 fuel x1 x2 (g1 + 1))
 else
 some (-1))
def m_slices_Index_int (fuel : Nat) (x1 : (List Int)) (x2 : Int) : Option Int :=
 m_slices_Index_int_l1 fuel x1 x2 0
def m_slices_Contains_int (fuel : Nat) (x1 : (List Int)) (x2 : Int) : Option Bool :=
 (m_slices_Index_int fuel x1 x2).bind fun v1 =>
 some (decide (0 ≤ v1))
def m_impl_ScopesWithin_1 (fuel : Nat) (x1 : Int) (o1 : (List Int)) : Option Bool :=
 (m_slices_Contains_int fuel o1 x1).bind fun v1 =>
 some (!v1)
def m_slices_IndexFunc_int_ScopesWithin_1_l1 (fuel : Nat) (x1 : (List Int)) (o1 : (List Int)) (g1 : Int) : Option Int :=
 match fuel with
 | 0 => none
 | fuel + 1 =>
 (bif (decide (g1 < (x1.length : Int))) then
 (idx x1 g1).bind fun v5 =>
 (m_impl_ScopesWithin_1 fuel v5 o1).bind fun v6 =>
 (bif v6 then
 some g1
 else
 m_slices_IndexFunc_int_ScopesWithin_1_l1 fuel x1 o1 (g1 + 1))
 else
 some (-1))
def m_slices_IndexFunc_int_ScopesWithin_1 (fuel : Nat) (x1 : (List Int)) (o1 : (List Int)) : Option Int :=
 m_slices_IndexFunc_int_ScopesWithin_1_l1 fuel x1 o1 0
def m_slices_ContainsFunc_int_ScopesWithin_1 (fuel : Nat) (x1 : (List Int)) (o1 : (List Int)) : Option Bool :=
 (m_slices_IndexFunc_int_ScopesWithin_1 fuel x1 o1).bind fun v1 =>
 some (decide (0 ≤ v1))
def m_impl_ScopesWithin (fuel : Nat) (x1 : (List Int)) (x2 : (List Int)) : Option Bool :=
 (m_slices_ContainsFunc_int_ScopesWithin_1 fuel x1 x2).bind fun v1 =>
 some (!v1)
mutual
def m_impl_fitting_j2 (fuel : Nat) (x1 : (List Bind)) (x2 : Form) (g1 : (List Int)) (g2 : Int) (g9 : Bool) : Option (List Int) :=
 match fuel with
 | 0 => none
 | fuel + 1 =>
 (bif g9 then
 chk (decide ((g1.length + [g2].length) * 8 ≤ 140737488355328)) <|
 m_impl_fitting_l1 fuel x1 x2 (g1 ++ [g2]) (g2 + 1)
 else
 m_impl_fitting_l1 fuel x1 x2 g1 (g2 + 1))
def m_impl_fitting_l1 (fuel : Nat) (x1 : (List Bind)) (x2 : Form) (g1 : (List Int)) (g2 : Int) : Option (List Int) :=
 match fuel with
 | 0 => none
 | fuel + 1 =>
 (bif (decide (g2 < (x1.length : Int))) then
 (idx x1 g2).bind fun v6 =>
 (bif (decide (v6.name = x2.name)) then
 (m_impl_ScopesWithin fuel v6.scopes x2.scopes).bind fun v8 =>
 m_impl_fitting_j2 fuel x1 x2 g1 g2 v8
 else
 m_impl_fitting_j2 fuel x1 x2 g1 g2 false)
 else
 some g1)
end
def m_impl_fitting (fuel : Nat) (x1 : (List Bind)) (x2 : Form) : Option (List Int) :=
 m_impl_fitting_l1 fuel x1 x2 ([] : List Int) 0
def m_impl_bound_1 (fuel : Nat) (x1 : Int) (o1 : (List Bind)) (o2 : Int) : Option Bool :=
 (idx o1 x1).bind fun v1 =>
 (idx o1 o2).bind fun v2 =>
 (m_impl_ScopesWithin fuel v1.scopes v2.scopes).bind fun v3 =>
 some (!v3)
def m_slices_IndexFunc_int_bound_1_l1 (fuel : Nat) (x1 : (List Int)) (o1 : (List Bind)) (o2 : Int) (g1 : Int) : Option Int :=
 match fuel with
 | 0 => none
 | fuel + 1 =>
 (bif (decide (g1 < (x1.length : Int))) then
 (idx x1 g1).bind fun v5 =>
 (m_impl_bound_1 fuel v5 o1 o2).bind fun v6 =>
 (bif v6 then
 some g1
 else
 m_slices_IndexFunc_int_bound_1_l1 fuel x1 o1 o2 (g1 + 1))
 else
 some (-1))
def m_slices_IndexFunc_int_bound_1 (fuel : Nat) (x1 : (List Int)) (o1 : (List Bind)) (o2 : Int) : Option Int :=
 m_slices_IndexFunc_int_bound_1_l1 fuel x1 o1 o2 0
def m_slices_ContainsFunc_int_bound_1 (fuel : Nat) (x1 : (List Int)) (o1 : (List Bind)) (o2 : Int) : Option Bool :=
 (m_slices_IndexFunc_int_bound_1 fuel x1 o1 o2).bind fun v1 =>
 some (decide (0 ≤ v1))
def m_impl_bound_l1 (fuel : Nat) (x1 : (List Bind)) (v1 : (List Int)) (g3 : Int) : Option (Int × Int) :=
 match fuel with
 | 0 => none
 | fuel + 1 =>
 (bif (decide (g3 < (v1.length : Int))) then
 (idx v1 g3).bind fun v7 =>
 (m_slices_ContainsFunc_int_bound_1 fuel v1 x1 v7).bind fun v8 =>
 (bif (!v8) then
 some (v7, 1)
 else
 m_impl_bound_l1 fuel x1 v1 (g3 + 1))
 else
 some (0, 2))
def m_impl_bound (fuel : Nat) (x1 : (List Bind)) (x2 : Form) : Option (Int × Int) :=
 (m_impl_fitting fuel x1 x2).bind fun v1 =>
 (bif (decide ((v1.length : Int) = 0)) then
 some (0, 0)
 else
 m_impl_bound_l1 fuel x1 v1 0)
def m_impl_FindName_j1 (fuel : Nat) (x1 : (List Bind)) (x2 : Form) (g4 : Bool) : Option (Int × Int) :=
 match fuel with
 | 0 => none
 | fuel + 1 =>
 (bif g4 then
 some (0, 0)
 else
 (m_impl_bound fuel x1 x2).bind fun v7 =>
 (bif (decide (v7.2 ≠ 1)) then
 some (0, v7.2)
 else
 (idx x1 v7.1).bind fun v9 =>
 some (v9.id, 1)))
def m_impl_FindName (fuel : Nat) (x1 : (List Bind)) (x2 : Form) : Option (Int × Int) :=
 (m_impl_BindsValid fuel x1).bind fun v1 =>
 (bif (!v1) then
 m_impl_FindName_j1 fuel x1 x2 true
 else
 (m_impl_isName fuel x2).bind fun v3 =>
 m_impl_FindName_j1 fuel x1 x2 (!v3))
def m_impl_SameReference_j1 (fuel : Nat) (x1 : (List Bind)) (x2 : Form) (x3 : Form) (g6 : Bool) : Option Bool :=
 match fuel with
 | 0 => none
 | fuel + 1 =>
 (bif g6 then
 some false
 else
 (m_impl_FindName fuel x1 x2).bind fun v9 =>
 (m_impl_FindName fuel x1 x3).bind fun v10 =>
 (bif (decide (v9.2 = 1)) then
 (bif (decide (v10.2 = 1)) then
 (bif (decide (v9.1 = v10.1)) then
 some true
 else
 (bif (decide (v9.2 = 0)) then
 (bif (decide (v10.2 = 0)) then
 some (decide (x2.name = x3.name))
 else
 some false)
 else
 some false))
 else
 (bif (decide (v9.2 = 0)) then
 (bif (decide (v10.2 = 0)) then
 some (decide (x2.name = x3.name))
 else
 some false)
 else
 some false))
 else
 (bif (decide (v9.2 = 0)) then
 (bif (decide (v10.2 = 0)) then
 some (decide (x2.name = x3.name))
 else
 some false)
 else
 some false)))
def m_impl_SameReference (fuel : Nat) (x1 : (List Bind)) (x2 : Form) (x3 : Form) : Option Bool :=
 (m_impl_BindsValid fuel x1).bind fun v1 =>
 (bif (!v1) then
 m_impl_SameReference_j1 fuel x1 x2 x3 true
 else
 (m_impl_isName fuel x2).bind fun v3 =>
 (bif (!v3) then
 m_impl_SameReference_j1 fuel x1 x2 x3 true
 else
 (m_impl_isName fuel x3).bind fun v5 =>
 m_impl_SameReference_j1 fuel x1 x2 x3 (!v5)))
mutual
def m_impl_match (fuel : Nat) (x1 : (List Bind)) (x2 : Form) (x3 : (List Form)) (x4 : Form) : Option ((List Hit) × Bool) :=
 match fuel with
 | 0 => none
 | fuel + 1 =>
 (bif (decide (x2.kind = 1)) then
 (bif (decide (x2.name = (⟨#[95]⟩ : ByteArray))) then
 some (([] : List Hit), true)
 else
 (m_impl_isIn fuel x3 x2).bind fun v3 =>
 (bif v3 then
 (m_impl_SameReference fuel x1 x2 x4).bind fun v5 =>
 some (([] : List Hit), v5)
 else
 (m_impl_copyForm fuel x2).bind fun v6 =>
 (m_impl_copyForm fuel x4).bind fun v7 =>
 some ([(Hit.mk v6 0 v7 ([] : List Hit))], true)))
 else
 (bif (decide (x2.kind = 2)) then
 (m_impl_FormSame fuel x2 x4).bind fun v9 =>
 some (([] : List Hit), v9)
 else
 (bif (decide (x4.kind ≠ 3)) then
 some (([] : List Hit), false)
 else
 (m_impl_dotsAt fuel x2.kids).bind fun v11 =>
 (bif (decide (v11 < 0)) then
 (bif (decide ((x2.kids.length : Int) ≠ (x4.kids.length : Int))) then
 some (([] : List Hit), false)
 else
 m_impl_match_l2 fuel x1 x2 x3 x4 0 ([] : List Hit))
 else
 (bif (decide ((w64 ((x4.kids.length : Int) - (w64 ((x2.kids.length : Int) - 2)))) < 0)) then
 some (([] : List Hit), false)
 else
 m_impl_match_l4 fuel x1 x2 x3 x4 v11 0 ([] : List Hit))))))
def m_impl_match_l2 (fuel : Nat) (x1 : (List Bind)) (x2 : Form) (x3 : (List Form)) (x4 : Form) (g14 : Int) (g15 : (List Hit)) : Option ((List Hit) × Bool) :=
 match fuel with
 | 0 => none
 | fuel + 1 =>
 (bif (decide (g14 < (x2.kids.length : Int))) then
 (idx x2.kids g14).bind fun v19 =>
 (idx x4.kids g14).bind fun v20 =>
 (m_impl_match_1 fuel v19 v20 x1 x3 g15).bind fun v21 =>
 (bif (!v21.1) then
 some (([] : List Hit), false)
 else
 m_impl_match_l2 fuel x1 x2 x3 x4 (g14 + 1) v21.2)
 else
 m_impl_match_j1 fuel  g15)
def m_impl_match_j1 (fuel : Nat) (g23 : (List Hit)) : Option ((List Hit) × Bool) :=
 match fuel with
 | 0 => none
 | fuel + 1 =>
 some (g23, true)
def m_impl_match_l4 (fuel : Nat) (x1 : (List Bind)) (x2 : Form) (x3 : (List Form)) (x4 : Form) (v11 : Int) (g26 : Int) (g27 : (List Hit)) : Option ((List Hit) × Bool) :=
 match fuel with
 | 0 => none
 | fuel + 1 =>
 (bif (decide (g26 < (w64 (v11 - 1)))) then
 (idx x2.kids g26).bind fun v30 =>
 (idx x4.kids g26).bind fun v31 =>
 (m_impl_match_1 fuel v30 v31 x1 x3 g27).bind fun v32 =>
 (bif (!v32.1) then
 some (([] : List Hit), false)
 else
 m_impl_match_l4 fuel x1 x2 x3 x4 v11 (w64 (g26 + 1)) v32.2)
 else
 m_impl_match_j3 fuel x1 x2 x3 x4 v11 g27)
def m_impl_match_l6 (fuel : Nat) (x1 : (List Bind)) (x2 : Form) (x3 : (List Form)) (x4 : Form) (v11 : Int) (g34 : (List Hit)) (v37 : (List Form) × (List Int)) (g38 : (List Hit)) (g39 : Int) : Option ((List Hit) × Bool) :=
 match fuel with
 | 0 => none
 | fuel + 1 =>
 (bif (decide (g39 < (v37.1.length : Int))) then
 (idx v37.1 g39).bind fun v43 =>
 (m_impl_copyForm fuel v43).bind fun v44 =>
 (idx v37.2 g39).bind fun v45 =>
 chk (decide ((g38.length + [(Hit.mk v44 (w64 (v45 + 1)) (Form.mk 0 (⟨#[]⟩ : ByteArray) 0 ([] : List Int) ([] : List Form)) ([] : List Hit))].length) * 192 ≤ 140737488355328)) <|
 m_impl_match_l6 fuel x1 x2 x3 x4 v11 g34 v37 (g38 ++ [(Hit.mk v44 (w64 (v45 + 1)) (Form.mk 0 (⟨#[]⟩ : ByteArray) 0 ([] : List Int) ([] : List Form)) ([] : List Hit))]) (g39 + 1)
 else
 m_impl_match_j5 fuel x1 x2 x3 x4 v11 g34 g38)
def m_impl_match_l9 (fuel : Nat) (x1 : (List Bind)) (x2 : Form) (x3 : (List Form)) (x4 : Form) (v11 : Int) (g34 : (List Hit)) (v49 : (List Form)) (g50 : Int) (g51 : (List Hit)) (v57 : (List Hit) × Bool) (g59 : Int) (g60 : (List Hit)) : Option ((List Hit) × Bool) :=
 match fuel with
 | 0 => none
 | fuel + 1 =>
 (bif (decide (g59 < (g51.length : Int))) then
 (idx g60 g59).bind fun v63 =>
 (idx v57.1 g59).bind fun v64 =>
 chk (decide ((v63.many.length + [(Hit.mk (Form.mk 0 (⟨#[]⟩ : ByteArray) 0 ([] : List Int) ([] : List Form)) 0 (Form.mk 0 (⟨#[]⟩ : ByteArray) 0 ([] : List Int) ([] : List Form)) ([] : List Hit))].length) * 192 ≤ 140737488355328)) <|
 (idx (v63.many ++ [(Hit.mk (Form.mk 0 (⟨#[]⟩ : ByteArray) 0 ([] : List Int) ([] : List Form)) 0 (Form.mk 0 (⟨#[]⟩ : ByteArray) 0 ([] : List Int) ([] : List Form)) ([] : List Hit))]) (v63.many.length : Int)).bind fun v66 =>
 (idx g60 g59).bind fun v67 =>
 m_impl_match_l9 fuel x1 x2 x3 x4 v11 g34 v49 g50 g51 v57 (w64 (g59 + 1)) (g60.set g59.toNat (Hit.mk v63.name v63.depth v63.one ((v63.many ++ [(Hit.mk (Form.mk 0 (⟨#[]⟩ : ByteArray) 0 ([] : List Int) ([] : List Form)) 0 (Form.mk 0 (⟨#[]⟩ : ByteArray) 0 ([] : List Int) ([] : List Form)) ([] : List Hit))]).set (v63.many.length : Int).toNat v64)))
 else
 m_impl_match_l8 fuel x1 x2 x3 x4 v11 g34 v49 (w64 (g50 + 1)) g60)
def m_impl_match_l8 (fuel : Nat) (x1 : (List Bind)) (x2 : Form) (x3 : (List Form)) (x4 : Form) (v11 : Int) (g34 : (List Hit)) (v49 : (List Form)) (g50 : Int) (g51 : (List Hit)) : Option ((List Hit) × Bool) :=
 match fuel with
 | 0 => none
 | fuel + 1 =>
 (bif (decide (g50 < (v49.length : Int))) then
 (idx v49 g50).bind fun v55 =>
 (idx x2.kids (w64 (v11 - 1))).bind fun v56 =>
 (m_impl_match fuel x1 v56 x3 v55).bind fun v57 =>
 (bif (!v57.2) then
 some (([] : List Hit), false)
 else
 m_impl_match_l9 fuel x1 x2 x3 x4 v11 g34 v49 g50 g51 v57 0 g51)
 else
 m_impl_match_j7 fuel x1 x2 x3 x4 v11 g34 g51)
def m_impl_match_l10 (fuel : Nat) (x1 : (List Bind)) (x2 : Form) (x3 : (List Form)) (x4 : Form) (v11 : Int) (g71 : Int) (g72 : (List Hit)) : Option ((List Hit) × Bool) :=
 match fuel with
 | 0 => none
 | fuel + 1 =>
 (bif (decide (g71 < (x2.kids.length : Int))) then
 (idx x2.kids g71).bind fun v76 =>
 (idx x4.kids (w64 ((w64 ((w64 ((w64 ((w64 (v11 - 1)) + (w64 ((x4.kids.length : Int) - (w64 ((x2.kids.length : Int) - 2)))))) + g71)) - v11)) - 1))).bind fun v77 =>
 (m_impl_match_1 fuel v76 v77 x1 x3 g72).bind fun v78 =>
 (bif (!v78.1) then
 some (([] : List Hit), false)
 else
 m_impl_match_l10 fuel x1 x2 x3 x4 v11 (g71 + 1) v78.2)
 else
 some (g72, true))
def m_impl_match_j7 (fuel : Nat) (x1 : (List Bind)) (x2 : Form) (x3 : (List Form)) (x4 : Form) (v11 : Int) (g34 : (List Hit)) (g68 : (List Hit)) : Option ((List Hit) × Bool) :=
 match fuel with
 | 0 => none
 | fuel + 1 =>
 chk (decide ((g34.length + g68.length) * 192 ≤ 140737488355328)) <|
 m_impl_match_l10 fuel x1 x2 x3 x4 v11 (w64 (v11 + 1)) (g34 ++ g68)
def m_impl_match_j5 (fuel : Nat) (x1 : (List Bind)) (x2 : Form) (x3 : (List Form)) (x4 : Form) (v11 : Int) (g34 : (List Hit)) (g47 : (List Hit)) : Option ((List Hit) × Bool) :=
 match fuel with
 | 0 => none
 | fuel + 1 =>
 (sub x4.kids (w64 (v11 - 1)) (w64 ((w64 (v11 - 1)) + (w64 ((x4.kids.length : Int) - (w64 ((x2.kids.length : Int) - 2))))))).bind fun v49 =>
 m_impl_match_l8 fuel x1 x2 x3 x4 v11 g34 v49 0 g47
def m_impl_match_j3 (fuel : Nat) (x1 : (List Bind)) (x2 : Form) (x3 : (List Form)) (x4 : Form) (v11 : Int) (g34 : (List Hit)) : Option ((List Hit) × Bool) :=
 match fuel with
 | 0 => none
 | fuel + 1 =>
 (idx x2.kids (w64 (v11 - 1))).bind fun v36 =>
 (m_impl_varsOf fuel v36 x3).bind fun v37 =>
 m_impl_match_l6 fuel x1 x2 x3 x4 v11 g34 v37 ([] : List Hit) 0
def m_impl_match_1 (fuel : Nat) (x1 : Form) (x2 : Form) (o1 : (List Bind)) (o2 : (List Form)) (o3 : (List Hit)) : Option (Bool × (List Hit)) :=
 match fuel with
 | 0 => none
 | fuel + 1 =>
 (m_impl_match fuel o1 x1 o2 x2).bind fun v1 =>
 chk (decide ((o3.length + v1.1.length) * 192 ≤ 140737488355328)) <|
 some (v1.2, (o3 ++ v1.1))
end
mutual
def m_impl_FormSize (fuel : Nat) (x1 : Form) : Option Int :=
 match fuel with
 | 0 => none
 | fuel + 1 =>
 m_impl_FormSize_l1 fuel x1 1 0
def m_impl_FormSize_l1 (fuel : Nat) (x1 : Form) (g1 : Int) (g2 : Int) : Option Int :=
 match fuel with
 | 0 => none
 | fuel + 1 =>
 (bif (decide (g2 < (x1.kids.length : Int))) then
 (idx x1.kids g2).bind fun v6 =>
 (m_impl_FormSize fuel v6).bind fun v7 =>
 m_impl_FormSize_l1 fuel x1 (w64 (g1 + v7)) (g2 + 1)
 else
 some g1)
end
def m_impl_fill_2 (fuel : Nat) (x1 : Form) (o1 : Bool) (o2 : Hit) : Option Bool :=
 (bif o1 then
 some true
 else
 (m_impl_FormSame fuel x1 o2.name).bind fun v2 =>
 some v2)
mutual
def m_impl_eachForm_fill_2 (fuel : Nat) (x1 : Form) (o1 : Bool) (o2 : Hit) : Option Bool :=
 match fuel with
 | 0 => none
 | fuel + 1 =>
 (m_impl_fill_2 fuel x1 o1 o2).bind fun v1 =>
 m_impl_eachForm_fill_2_l1 fuel x1 o2 0 v1
def m_impl_eachForm_fill_2_l1 (fuel : Nat) (x1 : Form) (o2 : Hit) (g2 : Int) (g3 : Bool) : Option Bool :=
 match fuel with
 | 0 => none
 | fuel + 1 =>
 (bif (decide (g2 < (x1.kids.length : Int))) then
 (idx x1.kids g2).bind fun v7 =>
 (m_impl_eachForm_fill_2 fuel v7 g3 o2).bind fun v8 =>
 m_impl_eachForm_fill_2_l1 fuel x1 o2 (g2 + 1) v8
 else
 some g3)
end
def m_slices_Clone_Hit (fuel : Nat) (x1 : (List Hit)) : Option (List Hit) :=
 chk (decide ((([] : List Hit).length + x1.length) * 192 ≤ 140737488355328)) <|
 some (([] : List Hit) ++ x1)
mutual
def m_impl_fill (fuel : Nat) (x1 : Form) (x2 : (List Hit)) : Option (Form × Bool) :=
 match fuel with
 | 0 => none
 | fuel + 1 =>
 (bif (decide (x1.kind = 1)) then
 (m_impl_hitAt fuel x2 x1).bind fun v2 =>
 (bif (decide (0 ≤ v2)) then
 (idx x2 v2).bind fun v4 =>
 (m_impl_copyForm fuel v4.one).bind fun v5 =>
 some (v5, true)
 else
 (m_impl_copyForm fuel x1).bind fun v6 =>
 some (v6, true))
 else
 m_impl_fill_l1 fuel x1 x2 0 x1.kind (⟨#[]⟩ : ByteArray) x1.n ([] : List Int) ([] : List Form) 0)
def m_impl_fill_j6 (fuel : Nat) (x1 : Form) (x2 : (List Hit)) (g7 : Int) (g8 : Int) (g9 : ByteArray) (g10 : Int) (g11 : (List Int)) (g12 : (List Form)) (g13 : Int) (v17 : Form) (g28 : Int) (g29 : (List Int)) (v34 : Hit) (g42 : Bool) : Option (Form × Bool) :=
 match fuel with
 | 0 => none
 | fuel + 1 =>
 (bif g42 then
 some ((Form.mk 0 (⟨#[]⟩ : ByteArray) 0 ([] : List Int) ([] : List Form)), false)
 else
 m_impl_fill_l4 fuel x1 x2 g7 g8 g9 g10 g11 g12 g13 v17 (g28 + 1) (g29 ++ [g28]) (v34.many.length : Int))
def m_impl_fill_j5 (fuel : Nat) (x1 : Form) (x2 : (List Hit)) (g7 : Int) (g8 : Int) (g9 : ByteArray) (g10 : Int) (g11 : (List Int)) (g12 : (List Form)) (g13 : Int) (v17 : Form) (g28 : Int) (g29 : (List Int)) (g30 : Int) (v34 : Hit) (g37 : Bool) : Option (Form × Bool) :=
 match fuel with
 | 0 => none
 | fuel + 1 =>
 (bif g37 then
 m_impl_fill_l4 fuel x1 x2 g7 g8 g9 g10 g11 g12 g13 v17 (g28 + 1) g29 g30
 else
 chk (decide ((g29.length + [g28].length) * 8 ≤ 140737488355328)) <|
 (bif (decide (0 ≤ g30)) then
 m_impl_fill_j6 fuel x1 x2 g7 g8 g9 g10 g11 g12 g13 v17 g28 g29 v34 (decide (g30 ≠ (v34.many.length : Int)))
 else
 m_impl_fill_j6 fuel x1 x2 g7 g8 g9 g10 g11 g12 g13 v17 g28 g29 v34 false))
def m_impl_fill_l4 (fuel : Nat) (x1 : Form) (x2 : (List Hit)) (g7 : Int) (g8 : Int) (g9 : ByteArray) (g10 : Int) (g11 : (List Int)) (g12 : (List Form)) (g13 : Int) (v17 : Form) (g28 : Int) (g29 : (List Int)) (g30 : Int) : Option (Form × Bool) :=
 match fuel with
 | 0 => none
 | fuel + 1 =>
 (bif (decide (g28 < (x2.length : Int))) then
 (idx x2 g28).bind fun v34 =>
 (m_impl_eachForm_fill_2 fuel v17 false v34).bind fun v35 =>
 (bif (!v35) then
 m_impl_fill_j5 fuel x1 x2 g7 g8 g9 g10 g11 g12 g13 v17 g28 g29 g30 v34 true
 else
 m_impl_fill_j5 fuel x1 x2 g7 g8 g9 g10 g11 g12 g13 v17 g28 g29 g30 v34 (decide (v34.depth = 0)))
 else
 m_impl_fill_j3 fuel x1 x2 g7 g8 g9 g10 g11 g12 g13 v17 g30 g29)
def m_impl_fill_l9 (fuel : Nat) (x1 : Form) (x2 : (List Hit)) (g7 : Int) (v17 : Form) (g45 : Int) (g46 : (List Int)) (g48 : Int) (g49 : Int) (g50 : ByteArray) (g51 : Int) (g52 : (List Int)) (g53 : (List Form)) (g54 : Int) (g58 : Int) (g59 : (List Hit)) : Option (Form × Bool) :=
 match fuel with
 | 0 => none
 | fuel + 1 =>
 (bif (decide (g58 < (g46.length : Int))) then
 (idx g46 g58).bind fun v63 =>
 (idx x2 v63).bind fun v64 =>
 (idx v64.many g48).bind fun v65 =>
 (idx g59 v63).bind fun v66 =>
 m_impl_fill_l9 fuel x1 x2 g7 v17 g45 g46 g48 g49 g50 g51 g52 g53 g54 (g58 + 1) (g59.set v63.toNat v65)
 else
 m_impl_fill_j8 fuel x1 x2 g7 v17 g45 g46 g48 g49 g50 g51 g52 g53 g54 g59)
def m_impl_fill_j8 (fuel : Nat) (x1 : Form) (x2 : (List Hit)) (g7 : Int) (v17 : Form) (g45 : Int) (g46 : (List Int)) (g48 : Int) (g49 : Int) (g50 : ByteArray) (g51 : Int) (g52 : (List Int)) (g53 : (List Form)) (g54 : Int) (g67 : (List Hit)) : Option (Form × Bool) :=
 match fuel with
 | 0 => none
 | fuel + 1 =>
 (m_impl_fill_1 fuel v17 g67 g54 (Form.mk g49 g50 g51 g52 g53)).bind fun v69 =>
 (bif (!v69.1) then
 some ((Form.mk 0 (⟨#[]⟩ : ByteArray) 0 ([] : List Int) ([] : List Form)), false)
 else
 m_impl_fill_l7 fuel x1 x2 g7 v17 g45 g46 (w64 (g48 + 1)) v69.2.2.kind v69.2.2.name v69.2.2.n v69.2.2.scopes v69.2.2.kids v69.2.1)
def m_impl_fill_l7 (fuel : Nat) (x1 : Form) (x2 : (List Hit)) (g7 : Int) (v17 : Form) (g45 : Int) (g46 : (List Int)) (g48 : Int) (g49 : Int) (g50 : ByteArray) (g51 : Int) (g52 : (List Int)) (g53 : (List Form)) (g54 : Int) : Option (Form × Bool) :=
 match fuel with
 | 0 => none
 | fuel + 1 =>
 (bif (decide (g48 < g45)) then
 (m_slices_Clone_Hit fuel x2).bind fun v57 =>
 m_impl_fill_l9 fuel x1 x2 g7 v17 g45 g46 g48 g49 g50 g51 g52 g53 g54 0 v57
 else
 m_impl_fill_l1 fuel x1 x2 (w64 (g7 + 1)) g49 g50 g51 g52 g53 g54)
def m_impl_fill_j3 (fuel : Nat) (x1 : Form) (x2 : (List Hit)) (g7 : Int) (g8 : Int) (g9 : ByteArray) (g10 : Int) (g11 : (List Int)) (g12 : (List Form)) (g13 : Int) (v17 : Form) (g45 : Int) (g46 : (List Int)) : Option (Form × Bool) :=
 match fuel with
 | 0 => none
 | fuel + 1 =>
 m_impl_fill_l7 fuel x1 x2 g7 v17 g45 g46 0 g8 g9 g10 g11 g12 g13
def m_impl_fill_j2 (fuel : Nat) (x1 : Form) (x2 : (List Hit)) (g7 : Int) (g8 : Int) (g9 : ByteArray) (g10 : Int) (g11 : (List Int)) (g12 : (List Form)) (g13 : Int) (v17 : Form) (g23 : Bool) : Option (Form × Bool) :=
 match fuel with
 | 0 => none
 | fuel + 1 =>
 (bif g23 then
 (m_impl_fill_1 fuel v17 x2 g13 (Form.mk g8 g9 g10 g11 g12)).bind fun v26 =>
 (bif (!v26.1) then
 some ((Form.mk 0 (⟨#[]⟩ : ByteArray) 0 ([] : List Int) ([] : List Form)), false)
 else
 m_impl_fill_l1 fuel x1 x2 (g7 + 1) v26.2.2.kind v26.2.2.name v26.2.2.n v26.2.2.scopes v26.2.2.kids v26.2.1)
 else
 m_impl_fill_l4 fuel x1 x2 g7 g8 g9 g10 g11 g12 g13 v17 0 ([] : List Int) (-1))
def m_impl_fill_l1 (fuel : Nat) (x1 : Form) (x2 : (List Hit)) (g7 : Int) (g8 : Int) (g9 : ByteArray) (g10 : Int) (g11 : (List Int)) (g12 : (List Form)) (g13 : Int) : Option (Form × Bool) :=
 match fuel with
 | 0 => none
 | fuel + 1 =>
 (bif (decide (g7 < (x1.kids.length : Int))) then
 (idx x1.kids g7).bind fun v17 =>
 (m_impl_named fuel v17 (⟨#[46, 46, 46]⟩ : ByteArray)).bind fun v18 =>
 (bif v18 then
 m_impl_fill_l1 fuel x1 x2 (g7 + 1) g8 g9 g10 g11 g12 g13
 else
 (bif (decide ((g7 + 1) = (x1.kids.length : Int))) then
 m_impl_fill_j2 fuel x1 x2 g7 g8 g9 g10 g11 g12 g13 v17 true
 else
 (idx x1.kids (g7 + 1)).bind fun v21 =>
 (m_impl_named fuel v21 (⟨#[46, 46, 46]⟩ : ByteArray)).bind fun v22 =>
 m_impl_fill_j2 fuel x1 x2 g7 g8 g9 g10 g11 g12 g13 v17 (!v22)))
 else
 some ((Form.mk g8 g9 g10 g11 g12), true))
def m_impl_fill_1 (fuel : Nat) (x1 : Form) (x2 : (List Hit)) (o1 : Int) (o2 : Form) : Option (Bool × Int × Form) :=
 match fuel with
 | 0 => none
 | fuel + 1 =>
 (m_impl_fill fuel x1 x2).bind fun v1 =>
 (bif (!v1.2) then
 some (false, o1, o2)
 else
 (m_impl_FormSize fuel v1.1).bind fun v3 =>
 chk (decide ((o2.kids.length + [(Form.mk 0 (⟨#[]⟩ : ByteArray) 0 ([] : List Int) ([] : List Form))].length) * 80 ≤ 140737488355328)) <|
 (idx (o2.kids ++ [(Form.mk 0 (⟨#[]⟩ : ByteArray) 0 ([] : List Int) ([] : List Form))]) (o2.kids.length : Int)).bind fun v5 =>
 some ((decide ((w64 (o1 + v3)) ≤ 400)), (w64 (o1 + v3)), (Form.mk o2.kind o2.name o2.n o2.scopes ((o2.kids ++ [(Form.mk 0 (⟨#[]⟩ : ByteArray) 0 ([] : List Int) ([] : List Form))]).set (o2.kids.length : Int).toNat v1.1))))
end
def m_impl_formOr (fuel : Nat) (x1 : Form) : Option (Form × Bool) :=
 (m_impl_FormValid fuel x1).bind fun v1 =>
 (bif (!v1) then
 some ((Form.mk 0 (⟨#[]⟩ : ByteArray) 0 ([] : List Int) ([] : List Form)), false)
 else
 (m_impl_copyForm fuel x1).bind fun v3 =>
 some (v3, true))
def m_impl_FillTemplate (fuel : Nat) (x1 : Form) (x2 : (List Hit)) : Option (Form × Bool) :=
 (m_impl_TemplateValid fuel x1 x2).bind fun v1 =>
 (bif (!v1) then
 some ((Form.mk 0 (⟨#[]⟩ : ByteArray) 0 ([] : List Int) ([] : List Form)), false)
 else
 (m_impl_fill fuel x1 x2).bind fun v3 =>
 (bif (!v3.2) then
 some ((Form.mk 0 (⟨#[]⟩ : ByteArray) 0 ([] : List Int) ([] : List Form)), false)
 else
 (m_impl_formOr fuel v3.1).bind fun v5 =>
 some (v5.1, v5.2)))
mutual
def m_spec_l5Uses (fuel : Nat) (x1 : Form) (x2 : Form) : Option Bool :=
 match fuel with
 | 0 => none
 | fuel + 1 =>
 (bif (decide (x1.kind = 1)) then
 (m_spec_FormSame fuel x1 x2).bind fun v2 =>
 (bif v2 then
 some true
 else
 m_spec_l5Uses_j1 fuel x1 x2 )
 else
 m_spec_l5Uses_j1 fuel x1 x2 )
def m_spec_l5Uses_l2 (fuel : Nat) (x1 : Form) (x2 : Form) (g5 : Int) : Option Bool :=
 match fuel with
 | 0 => none
 | fuel + 1 =>
 (bif (decide (g5 < (x1.kids.length : Int))) then
 (idx x1.kids g5).bind fun v9 =>
 (m_spec_l5Uses fuel v9 x2).bind fun v10 =>
 (bif v10 then
 some true
 else
 m_spec_l5Uses_l2 fuel x1 x2 (g5 + 1))
 else
 some false)
def m_spec_l5Uses_j1 (fuel : Nat) (x1 : Form) (x2 : Form) : Option Bool :=
 match fuel with
 | 0 => none
 | fuel + 1 =>
 m_spec_l5Uses_l2 fuel x1 x2 0
end
mutual
def m_spec_l5Count_j3 (fuel : Nat) (x1 : Form) (x2 : (List Hit)) (g1 : Int) : Option Int :=
 match fuel with
 | 0 => none
 | fuel + 1 =>
 (idx x2 g1).bind fun v17 =>
 m_spec_l5Count_l1 fuel x1 x2 (g1 + 1) (v17.many.length : Int)
def m_spec_l5Count_j2 (fuel : Nat) (x1 : Form) (x2 : (List Hit)) (g1 : Int) (g2 : Int) (g10 : Bool) : Option Int :=
 match fuel with
 | 0 => none
 | fuel + 1 =>
 (bif g10 then
 m_spec_l5Count_l1 fuel x1 x2 (g1 + 1) g2
 else
 (bif (decide (0 ≤ g2)) then
 (idx x2 g1).bind fun v14 =>
 (bif (decide (g2 ≠ (v14.many.length : Int))) then
 some (-1)
 else
 m_spec_l5Count_j3 fuel x1 x2 g1 )
 else
 m_spec_l5Count_j3 fuel x1 x2 g1 ))
def m_spec_l5Count_l1 (fuel : Nat) (x1 : Form) (x2 : (List Hit)) (g1 : Int) (g2 : Int) : Option Int :=
 match fuel with
 | 0 => none
 | fuel + 1 =>
 (bif (decide (g1 < (x2.length : Int))) then
 (idx x2 g1).bind fun v6 =>
 (bif (decide (v6.depth = 0)) then
 m_spec_l5Count_j2 fuel x1 x2 g1 g2 true
 else
 (idx x2 g1).bind fun v8 =>
 (m_spec_l5Uses fuel x1 v8.name).bind fun v9 =>
 m_spec_l5Count_j2 fuel x1 x2 g1 g2 (!v9))
 else
 some g2)
end
def m_spec_l5Count (fuel : Nat) (x1 : Form) (x2 : (List Hit)) : Option Int :=
 m_spec_l5Count_l1 fuel x1 x2 0 (-1)
mutual
def m_spec_l5Nth_j2 (fuel : Nat) (x1 : Form) (x2 : (List Hit)) (x3 : Int) (g1 : (List Hit)) (g2 : Int) (v6 : Hit) (g9 : Bool) : Option (List Hit) :=
 match fuel with
 | 0 => none
 | fuel + 1 =>
 (bif g9 then
 (idx v6.many x3).bind fun v12 =>
 chk (decide ((g1.length + [v12].length) * 192 ≤ 140737488355328)) <|
 m_spec_l5Nth_l1 fuel x1 x2 x3 (g1 ++ [v12]) (g2 + 1)
 else
 chk (decide ((g1.length + [v6].length) * 192 ≤ 140737488355328)) <|
 m_spec_l5Nth_l1 fuel x1 x2 x3 (g1 ++ [v6]) (g2 + 1))
def m_spec_l5Nth_l1 (fuel : Nat) (x1 : Form) (x2 : (List Hit)) (x3 : Int) (g1 : (List Hit)) (g2 : Int) : Option (List Hit) :=
 match fuel with
 | 0 => none
 | fuel + 1 =>
 (bif (decide (g2 < (x2.length : Int))) then
 (idx x2 g2).bind fun v6 =>
 (bif (decide (0 < v6.depth)) then
 (m_spec_l5Uses fuel x1 v6.name).bind fun v8 =>
 m_spec_l5Nth_j2 fuel x1 x2 x3 g1 g2 v6 v8
 else
 m_spec_l5Nth_j2 fuel x1 x2 x3 g1 g2 v6 false)
 else
 some g1)
end
def m_spec_l5Nth (fuel : Nat) (x1 : Form) (x2 : (List Hit)) (x3 : Int) : Option (List Hit) :=
 m_spec_l5Nth_l1 fuel x1 x2 x3 ([] : List Hit) 0
mutual
def m_spec_l5Fill (fuel : Nat) (x1 : Form) (x2 : (List Hit)) : Option (Form × Bool) :=
 match fuel with
 | 0 => none
 | fuel + 1 =>
 (bif (decide (x1.kind = 1)) then
 (m_spec_l4Find fuel x2 x1).bind fun v2 =>
 m_spec_l5Fill_j1 fuel x1 x2 v2
 else
 m_spec_l5Fill_j1 fuel x1 x2 (-1))
def m_spec_l5Fill_j7 (fuel : Nat) (x1 : Form) (x2 : (List Hit)) (g10 : Int) (g22 : Bool) (g27 : Int) (g30 : Int) (g31 : Int) (g32 : (List Form)) (v41 : Form × Bool) (v42 : Int) (g44 : Bool) : Option (Form × Bool) :=
 match fuel with
 | 0 => none
 | fuel + 1 =>
 (bif g44 then
 some (x1, false)
 else
 chk (decide ((g32.length + [v41.1].length) * 80 ≤ 140737488355328)) <|
 m_spec_l5Fill_l5 fuel x1 x2 g10 g22 g27 (w64 (g30 + v42)) (w64 (g31 + 1)) (g32 ++ [v41.1]))
def m_spec_l5Fill_j6 (fuel : Nat) (x1 : Form) (x2 : (List Hit)) (g10 : Int) (g22 : Bool) (g27 : Int) (g30 : Int) (g31 : Int) (g32 : (List Form)) (g38 : (List Hit)) : Option (Form × Bool) :=
 match fuel with
 | 0 => none
 | fuel + 1 =>
 (idx x1.kids g10).bind fun v40 =>
 (m_spec_l5Fill fuel v40 g38).bind fun v41 =>
 (m_spec_l1Count fuel v41.1).bind fun v42 =>
 (bif (!v41.2) then
 m_spec_l5Fill_j7 fuel x1 x2 g10 g22 g27 g30 g31 g32 v41 v42 true
 else
 m_spec_l5Fill_j7 fuel x1 x2 g10 g22 g27 g30 g31 g32 v41 v42 (decide (400 < (w64 (g30 + v42)))))
def m_spec_l5Fill_l5 (fuel : Nat) (x1 : Form) (x2 : (List Hit)) (g10 : Int) (g22 : Bool) (g27 : Int) (g30 : Int) (g31 : Int) (g32 : (List Form)) : Option (Form × Bool) :=
 match fuel with
 | 0 => none
 | fuel + 1 =>
 (bif (decide (g31 < g27)) then
 (bif g22 then
 (idx x1.kids g10).bind fun v36 =>
 (m_spec_l5Nth fuel v36 x2 g31).bind fun v37 =>
 m_spec_l5Fill_j6 fuel x1 x2 g10 g22 g27 g30 g31 g32 v37
 else
 m_spec_l5Fill_j6 fuel x1 x2 g10 g22 g27 g30 g31 g32 x2)
 else
 m_spec_l5Fill_l2 fuel x1 x2 (w64 (g10 + 1)) g30 g32)
def m_spec_l5Fill_j4 (fuel : Nat) (x1 : Form) (x2 : (List Hit)) (g10 : Int) (g11 : Int) (g12 : (List Form)) (g22 : Bool) (g27 : Int) : Option (Form × Bool) :=
 match fuel with
 | 0 => none
 | fuel + 1 =>
 (bif (decide (g27 < 0)) then
 some (x1, false)
 else
 m_spec_l5Fill_l5 fuel x1 x2 g10 g22 g27 g11 0 g12)
def m_spec_l5Fill_j3 (fuel : Nat) (x1 : Form) (x2 : (List Hit)) (g10 : Int) (g11 : Int) (g12 : (List Form)) (g22 : Bool) : Option (Form × Bool) :=
 match fuel with
 | 0 => none
 | fuel + 1 =>
 (bif g22 then
 (idx x1.kids g10).bind fun v25 =>
 (m_spec_l5Count fuel v25 x2).bind fun v26 =>
 m_spec_l5Fill_j4 fuel x1 x2 g10 g11 g12 g22 v26
 else
 m_spec_l5Fill_j4 fuel x1 x2 g10 g11 g12 g22 1)
def m_spec_l5Fill_l2 (fuel : Nat) (x1 : Form) (x2 : (List Hit)) (g10 : Int) (g11 : Int) (g12 : (List Form)) : Option (Form × Bool) :=
 match fuel with
 | 0 => none
 | fuel + 1 =>
 (bif (decide (g10 < (x1.kids.length : Int))) then
 (idx x1.kids g10).bind fun v16 =>
 (m_spec_l4Dots fuel v16).bind fun v17 =>
 (bif v17 then
 m_spec_l5Fill_l2 fuel x1 x2 (g10 + 1) g11 g12
 else
 (bif (decide ((g10 + 1) < (x1.kids.length : Int))) then
 (idx x1.kids (g10 + 1)).bind fun v20 =>
 (m_spec_l4Dots fuel v20).bind fun v21 =>
 m_spec_l5Fill_j3 fuel x1 x2 g10 g11 g12 v21
 else
 m_spec_l5Fill_j3 fuel x1 x2 g10 g11 g12 false))
 else
 some ((Form.mk x1.kind x1.name x1.n (([] : List Int) ++ x1.scopes) g12), true))
def m_spec_l5Fill_j1 (fuel : Nat) (x1 : Form) (x2 : (List Hit)) (g3 : Int) : Option (Form × Bool) :=
 match fuel with
 | 0 => none
 | fuel + 1 =>
 (bif (decide (0 ≤ g3)) then
 (idx x2 g3).bind fun v6 =>
 (m_spec_l1Copy fuel v6.one).bind fun v7 =>
 (idx x2 g3).bind fun v8 =>
 some (v7, (decide (v8.depth = 0)))
 else
 chk (decide ((([] : List Int).length + x1.scopes.length) * 8 ≤ 140737488355328)) <|
 m_spec_l5Fill_l2 fuel x1 x2 0 0 ([] : List Form))
end
def m_spec_FillTemplate (fuel : Nat) (x1 : Form) (x2 : (List Hit)) : Option (Form × Bool) :=
 (m_spec_l15OwnForm fuel x1).bind fun v1 =>
 (m_spec_TemplateValid fuel v1 x2).bind fun v2 =>
 (bif (!v2) then
 some ((Form.mk 0 (⟨#[]⟩ : ByteArray) 0 ([] : List Int) ([] : List Form)), false)
 else
 (m_spec_l5Fill fuel v1 x2).bind fun v4 =>
 (bif (!v4.2) then
 some ((Form.mk 0 (⟨#[]⟩ : ByteArray) 0 ([] : List Int) ([] : List Form)), false)
 else
 (m_spec_FormValid fuel v4.1).bind fun v6 =>
 (bif (!v6) then
 some ((Form.mk 0 (⟨#[]⟩ : ByteArray) 0 ([] : List Int) ([] : List Form)), false)
 else
 some (v4.1, true))))
def m_laws_markIntS_l1 (fuel : Nat) (g1 : Int) (g2 : Int) (g3 : (List Int)) : Option (Int × (List Int)) :=
 match fuel with
 | 0 => none
 | fuel + 1 =>
 (bif (decide (g2 < (g3.length : Int))) then
 (idx g3 g2).bind fun v7 =>
 m_laws_markIntS_l1 fuel  (w64 (g1 + 1)) (g2 + 1) (g3.set g2.toNat g1)
 else
 some (g1, g3))
def m_laws_markIntS (fuel : Nat) (x1 : (List Int)) (x2 : Int) : Option (Int × (List Int)) :=
 m_laws_markIntS_l1 fuel  x2 0 x1
def m_laws_markText_l1 (fuel : Nat) (g2 : Int) (g3 : ByteArray) : Option ByteArray :=
 match fuel with
 | 0 => none
 | fuel + 1 =>
 (bif (decide (0 < g2)) then
 (bcat (strOf [(w8 (w64 (48 + (g2.tmod 10))))]) g3).bind fun v6 =>
 m_laws_markText_l1 fuel  (w64 (g2.tdiv 10)) v6
 else
 (bcat (⟨#[109]⟩ : ByteArray) g3).bind fun v7 =>
 some v7)
def m_laws_markText (fuel : Nat) (x1 : Int) : Option ByteArray :=
 (bif (decide (x1 ≤ 0)) then
 some (⟨#[109, 48]⟩ : ByteArray)
 else
 m_laws_markText_l1 fuel  x1 (⟨#[]⟩ : ByteArray))
mutual
def m_laws_markFormS (fuel : Nat) (x1 : (List Form)) (x2 : Int) : Option (Int × (List Form)) :=
 match fuel with
 | 0 => none
 | fuel + 1 =>
 m_laws_markFormS_l1 fuel  x2 0 x1
def m_laws_markFormS_l1 (fuel : Nat) (g1 : Int) (g2 : Int) (g3 : (List Form)) : Option (Int × (List Form)) :=
 match fuel with
 | 0 => none
 | fuel + 1 =>
 (bif (decide (g2 < (g3.length : Int))) then
 (idx g3 g2).bind fun v6 =>
 (m_laws_markText fuel (w64 (g1 + 1))).bind fun v7 =>
 (idx (g3.set g2.toNat (Form.mk g1 v6.name v6.n v6.scopes v6.kids)) g2).bind fun v8 =>
 (idx ((g3.set g2.toNat (Form.mk g1 v6.name v6.n v6.scopes v6.kids)).set g2.toNat (Form.mk v8.kind v7 v8.n v8.scopes v8.kids)) g2).bind fun v9 =>
 (idx (((g3.set g2.toNat (Form.mk g1 v6.name v6.n v6.scopes v6.kids)).set g2.toNat (Form.mk v8.kind v7 v8.n v8.scopes v8.kids)).set g2.toNat (Form.mk v9.kind v9.name (w64 ((w64 (g1 + 1)) + 1)) v9.scopes v9.kids)) g2).bind fun v10 =>
 (m_laws_markIntS fuel v10.scopes (w64 ((w64 ((w64 (g1 + 1)) + 1)) + 1))).bind fun v11 =>
 (idx ((((g3.set g2.toNat (Form.mk g1 v6.name v6.n v6.scopes v6.kids)).set g2.toNat (Form.mk v8.kind v7 v8.n v8.scopes v8.kids)).set g2.toNat (Form.mk v9.kind v9.name (w64 ((w64 (g1 + 1)) + 1)) v9.scopes v9.kids)).set g2.toNat (Form.mk v10.kind v10.name v10.n v11.2 v10.kids)) g2).bind fun v12 =>
 (m_laws_markFormS fuel v12.kids v11.1).bind fun v13 =>
 m_laws_markFormS_l1 fuel  v13.1 (w64 (g2 + 1)) (((((g3.set g2.toNat (Form.mk g1 v6.name v6.n v6.scopes v6.kids)).set g2.toNat (Form.mk v8.kind v7 v8.n v8.scopes v8.kids)).set g2.toNat (Form.mk v9.kind v9.name (w64 ((w64 (g1 + 1)) + 1)) v9.scopes v9.kids)).set g2.toNat (Form.mk v10.kind v10.name v10.n v11.2 v10.kids)).set g2.toNat (Form.mk v12.kind v12.name v12.n v12.scopes v13.2))
 else
 some (g1, g3))
end
def m_laws_markForm (fuel : Nat) (x1 : Form) (x2 : Int) : Option (Int × (List Int) × (List Form)) :=
 (m_laws_markIntS fuel x1.scopes x2).bind fun v1 =>
 (m_laws_markFormS fuel x1.kids v1.1).bind fun v2 =>
 some (v2.1, v1.2, v2.2)
end Go.Abs
