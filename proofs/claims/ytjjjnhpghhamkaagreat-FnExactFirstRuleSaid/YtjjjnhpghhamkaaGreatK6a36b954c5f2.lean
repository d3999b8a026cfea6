/- A part of the proof: what the functions that the law calls answer, as pure values. -/
import Derived.Test.YtjjjnhpghhamkaaGreatK47fea1a30345
import Derived.Test.YtjjjnhpghhamkaaGreatKd12cb08badc5
set_option linter.unusedSimpArgs false
set_option linter.unusedVariables false
set_option maxHeartbeats 4000000
namespace Go.Abs
def m_impl_RuleValid (fuel : Nat) (x1 : Rule) (x2 : (List Form)) : Option Bool :=
 (m_impl_PatternValid fuel x1.pattern x2).bind fun v1 =>
 (bif (!v1) then
 some false
 else
 (bif (decide (x1.pattern.kind ≠ 3)) then
 some false
 else
 (bif (decide ((x1.pattern.kids.length : Int) = 0)) then
 some false
 else
 (m_impl_varsOf fuel x1.pattern x2).bind fun v5 =>
 (m_impl_templateOk fuel x1.template v5.1 v5.2).bind fun v6 =>
 some v6)))
def m_laws_eqRule (fuel : Nat) (x1 : Rule) (x2 : Rule) : Option Bool :=
 (m_laws_eqForm fuel x1.pattern x2.pattern).bind fun v1 =>
 (bif (!v1) then
 some false
 else
 (m_laws_eqForm fuel x1.template x2.template).bind fun v3 =>
 (bif (!v3) then
 some false
 else
 some true))
def m_slices_Clone_int (fuel : Nat) (x1 : (List Int)) : Option (List Int) :=
 chk (decide ((([] : List Int).length + x1.length) * 8 ≤ 140737488355328)) <|
 some (([] : List Int) ++ x1)
mutual
def m_impl_copyForm (fuel : Nat) (x1 : Form) : Option Form :=
 match fuel with
 | 0 => none
 | fuel + 1 =>
 (m_slices_Clone_int fuel x1.scopes).bind fun v1 =>
 m_impl_copyForm_l1 fuel x1 v1 0 ([] : List Form)
def m_impl_copyForm_l1 (fuel : Nat) (x1 : Form) (v1 : (List Int)) (g2 : Int) (g3 : (List Form)) : Option Form :=
 match fuel with
 | 0 => none
 | fuel + 1 =>
 (bif (decide (g2 < (x1.kids.length : Int))) then
 (idx x1.kids g2).bind fun v7 =>
 (m_impl_copyForm fuel v7).bind fun v8 =>
 chk (decide ((g3.length + [v8].length) * 80 ≤ 140737488355328)) <|
 m_impl_copyForm_l1 fuel x1 v1 (g2 + 1) (g3 ++ [v8])
 else
 some (Form.mk x1.kind x1.name x1.n v1 g3))
end
mutual
def m_spec_l5Rules_j2 (fuel : Nat) (x1 : (List Rule)) (x2 : (List Form)) (g1 : Int) (g4 : Bool) : Option Bool :=
 match fuel with
 | 0 => none
 | fuel + 1 =>
 (bif g4 then
 (idx x1 g1).bind fun v7 =>
 (m_spec_l5Rule fuel v7 x2).bind fun v8 =>
 (bif (!v8) then
 some false
 else
 m_spec_l5Rules_l1 fuel x1 x2 (w64 (g1 + 1)))
 else
 (bif (decide ((x1.length : Int) < 10)) then
 (m_spec_l4Literals fuel x2).bind fun v11 =>
 some v11
 else
 some false))
def m_spec_l5Rules_l1 (fuel : Nat) (x1 : (List Rule)) (x2 : (List Form)) (g1 : Int) : Option Bool :=
 match fuel with
 | 0 => none
 | fuel + 1 =>
 (bif (decide (g1 < (x1.length : Int))) then
 m_spec_l5Rules_j2 fuel x1 x2 g1 (decide (g1 < 10))
 else
 m_spec_l5Rules_j2 fuel x1 x2 g1 false)
end
def m_spec_l5Rules (fuel : Nat) (x1 : (List Rule)) (x2 : (List Form)) : Option Bool :=
 m_spec_l5Rules_l1 fuel x1 x2 0
mutual
def m_spec_BindsValid_j5 (fuel : Nat) (x1 : (List Bind)) (g1 : Int) (g19 : Int) (g28 : Bool) : Option Bool :=
 match fuel with
 | 0 => none
 | fuel + 1 =>
 (bif g28 then
 some false
 else
 m_spec_BindsValid_l4 fuel x1 g1 (w64 (g19 + 1)))
def m_spec_BindsValid_l4 (fuel : Nat) (x1 : (List Bind)) (g1 : Int) (g19 : Int) : Option Bool :=
 match fuel with
 | 0 => none
 | fuel + 1 =>
 (bif (decide (g19 < g1)) then
 (idx x1 g19).bind fun v22 =>
 (idx x1 g1).bind fun v23 =>
 (bif (decide (v22.name = v23.name)) then
 (idx x1 g19).bind fun v25 =>
 (idx x1 g1).bind fun v26 =>
 (m_spec_l1Ints fuel v25.scopes v26.scopes).bind fun v27 =>
 m_spec_BindsValid_j5 fuel x1 g1 g19 v27
 else
 m_spec_BindsValid_j5 fuel x1 g1 g19 false)
 else
 m_spec_BindsValid_l1 fuel x1 (w64 (g1 + 1)))
def m_spec_BindsValid_j3 (fuel : Nat) (x1 : (List Bind)) (g1 : Int) (g16 : Bool) : Option Bool :=
 match fuel with
 | 0 => none
 | fuel + 1 =>
 (bif g16 then
 some false
 else
 m_spec_BindsValid_l4 fuel x1 g1 0)
def m_spec_BindsValid_j2 (fuel : Nat) (x1 : (List Bind)) (g1 : Int) (g4 : Bool) : Option Bool :=
 match fuel with
 | 0 => none
 | fuel + 1 =>
 (bif g4 then
 (idx x1 g1).bind fun v7 =>
 (m_spec_NameValid fuel v7.name).bind fun v8 =>
 (bif (!v8) then
 m_spec_BindsValid_j3 fuel x1 g1 true
 else
 (idx x1 g1).bind fun v10 =>
 (m_spec_l1Scopes fuel v10.scopes).bind fun v11 =>
 (bif (!v11) then
 m_spec_BindsValid_j3 fuel x1 g1 true
 else
 (idx x1 g1).bind fun v13 =>
 (bif (decide (v13.id < 1)) then
 m_spec_BindsValid_j3 fuel x1 g1 true
 else
 (idx x1 g1).bind fun v15 =>
 m_spec_BindsValid_j3 fuel x1 g1 (decide (999 < v15.id)))))
 else
 some (decide ((x1.length : Int) ≤ 60)))
def m_spec_BindsValid_l1 (fuel : Nat) (x1 : (List Bind)) (g1 : Int) : Option Bool :=
 match fuel with
 | 0 => none
 | fuel + 1 =>
 (bif (decide (g1 < (x1.length : Int))) then
 m_spec_BindsValid_j2 fuel x1 g1 (decide (g1 ≤ 60))
 else
 m_spec_BindsValid_j2 fuel x1 g1 false)
end
def m_spec_BindsValid (fuel : Nat) (x1 : (List Bind)) : Option Bool :=
 m_spec_BindsValid_l1 fuel x1 0
def m_spec_l2Has_l1 (fuel : Nat) (x1 : (List Int)) (x2 : Int) (g1 : Int) : Option Bool :=
 match fuel with
 | 0 => none
 | fuel + 1 =>
 (bif (decide (g1 < (x1.length : Int))) then
 (idx x1 g1).bind fun v5 =>
 (bif (decide (v5 = x2)) then
 some true
 else
 m_spec_l2Has_l1 fuel x1 x2 (g1 + 1))
 else
 some false)
def m_spec_l2Has (fuel : Nat) (x1 : (List Int)) (x2 : Int) : Option Bool :=
 m_spec_l2Has_l1 fuel x1 x2 0
def m_spec_ScopesWithin_l1 (fuel : Nat) (x1 : (List Int)) (x2 : (List Int)) (g1 : Int) : Option Bool :=
 match fuel with
 | 0 => none
 | fuel + 1 =>
 (bif (decide (g1 < (x1.length : Int))) then
 (idx x1 g1).bind fun v5 =>
 (m_spec_l2Has fuel x2 v5).bind fun v6 =>
 (bif (!v6) then
 some false
 else
 m_spec_ScopesWithin_l1 fuel x1 x2 (g1 + 1))
 else
 some true)
def m_spec_ScopesWithin (fuel : Nat) (x1 : (List Int)) (x2 : (List Int)) : Option Bool :=
 m_spec_ScopesWithin_l1 fuel x1 x2 0
mutual
def m_spec_l3Fitting_j2 (fuel : Nat) (x1 : (List Bind)) (x2 : Form) (g1 : (List Int)) (g2 : Int) (g10 : Bool) : Option (List Int) :=
 match fuel with
 | 0 => none
 | fuel + 1 =>
 (bif g10 then
 chk (decide ((g1.length + [g2].length) * 8 ≤ 140737488355328)) <|
 m_spec_l3Fitting_l1 fuel x1 x2 (g1 ++ [g2]) (g2 + 1)
 else
 m_spec_l3Fitting_l1 fuel x1 x2 g1 (g2 + 1))
def m_spec_l3Fitting_l1 (fuel : Nat) (x1 : (List Bind)) (x2 : Form) (g1 : (List Int)) (g2 : Int) : Option (List Int) :=
 match fuel with
 | 0 => none
 | fuel + 1 =>
 (bif (decide (g2 < (x1.length : Int))) then
 (idx x1 g2).bind fun v6 =>
 (bif (decide (v6.name = x2.name)) then
 (idx x1 g2).bind fun v8 =>
 (m_spec_ScopesWithin fuel v8.scopes x2.scopes).bind fun v9 =>
 m_spec_l3Fitting_j2 fuel x1 x2 g1 g2 v9
 else
 m_spec_l3Fitting_j2 fuel x1 x2 g1 g2 false)
 else
 some g1)
end
def m_spec_l3Fitting (fuel : Nat) (x1 : (List Bind)) (x2 : Form) : Option (List Int) :=
 m_spec_l3Fitting_l1 fuel x1 x2 ([] : List Int) 0
mutual
def m_spec_l3Find_j4 (fuel : Nat) (x1 : (List Bind)) (v1 : (List Int)) (g2 : Int) (g7 : Int) (g16 : Bool) : Option (Int × Int) :=
 match fuel with
 | 0 => none
 | fuel + 1 =>
 m_spec_l3Find_l3 fuel x1 v1 g2 g16 (g7 + 1)
def m_spec_l3Find_l3 (fuel : Nat) (x1 : (List Bind)) (v1 : (List Int)) (g2 : Int) (g6 : Bool) (g7 : Int) : Option (Int × Int) :=
 match fuel with
 | 0 => none
 | fuel + 1 =>
 (bif (decide (g7 < (v1.length : Int))) then
 (bif g6 then
 (idx v1 g7).bind fun v11 =>
 (idx x1 v11).bind fun v12 =>
 (idx v1 g2).bind fun v13 =>
 (idx x1 v13).bind fun v14 =>
 (m_spec_ScopesWithin fuel v12.scopes v14.scopes).bind fun v15 =>
 m_spec_l3Find_j4 fuel x1 v1 g2 g7 v15
 else
 m_spec_l3Find_j4 fuel x1 v1 g2 g7 false)
 else
 m_spec_l3Find_j2 fuel x1 v1 g2 g6)
def m_spec_l3Find_j2 (fuel : Nat) (x1 : (List Bind)) (v1 : (List Int)) (g2 : Int) (g18 : Bool) : Option (Int × Int) :=
 match fuel with
 | 0 => none
 | fuel + 1 =>
 (bif g18 then
 (idx v1 g2).bind fun v21 =>
 some (v21, 1)
 else
 m_spec_l3Find_l1 fuel x1 v1 (g2 + 1))
def m_spec_l3Find_l1 (fuel : Nat) (x1 : (List Bind)) (v1 : (List Int)) (g2 : Int) : Option (Int × Int) :=
 match fuel with
 | 0 => none
 | fuel + 1 =>
 (bif (decide (g2 < (v1.length : Int))) then
 m_spec_l3Find_l3 fuel x1 v1 g2 true 0
 else
 (bif (decide (0 < (v1.length : Int))) then
 some (0, 2)
 else
 some (0, 0)))
end
def m_spec_l3Find (fuel : Nat) (x1 : (List Bind)) (x2 : Form) : Option (Int × Int) :=
 (m_spec_l3Fitting fuel x1 x2).bind fun v1 =>
 m_spec_l3Find_l1 fuel x1 v1 0
def m_spec_l3Same_j1 (fuel : Nat) (x1 : (List Bind)) (x2 : Form) (x3 : Form) (v1 : Int × Int) (v2 : Int × Int) (g4 : Bool) : Option Bool :=
 match fuel with
 | 0 => none
 | fuel + 1 =>
 (bif g4 then
 some false
 else
 (bif (decide (v1.2 = 0)) then
 some (decide (x2.name = x3.name))
 else
 (idx x1 v1.1).bind fun v8 =>
 (idx x1 v2.1).bind fun v9 =>
 some (decide (v8.id = v9.id))))
def m_spec_l3Same (fuel : Nat) (x1 : (List Bind)) (x2 : Form) (x3 : Form) : Option Bool :=
 (m_spec_l3Find fuel x1 x2).bind fun v1 =>
 (m_spec_l3Find fuel x1 x3).bind fun v2 =>
 (bif (decide (v1.2 ≠ v2.2)) then
 m_spec_l3Same_j1 fuel x1 x2 x3 v1 v2 true
 else
 m_spec_l3Same_j1 fuel x1 x2 x3 v1 v2 (decide (v1.2 = 2)))
mutual
def m_spec_l4Row_l2 (fuel : Nat) (x3 : (List (List Hit))) (v1 : (List Form)) (v2 : (List Int)) (g3 : (List Hit)) (g4 : Int) (v8 : Form) (v9 : Int) (g10 : Int) (g11 : (List Hit)) : Option (List Hit) :=
 match fuel with
 | 0 => none
 | fuel + 1 =>
 (bif (decide (g10 < (x3.length : Int))) then
 (idx x3 g10).bind fun v15 =>
 (idx v15 g4).bind fun v16 =>
 chk (decide ((g11.length + [v16].length) * 192 ≤ 140737488355328)) <|
 m_spec_l4Row_l2 fuel x3 v1 v2 g3 g4 v8 v9 (g10 + 1) (g11 ++ [v16])
 else
 chk (decide ((g3.length + [(Hit.mk v8 (w64 (v9 + 1)) (Form.mk 0 (⟨#[]⟩ : ByteArray) 0 ([] : List Int) ([] : List Form)) g11)].length) * 192 ≤ 140737488355328)) <|
 m_spec_l4Row_l1 fuel x3 v1 v2 (g3 ++ [(Hit.mk v8 (w64 (v9 + 1)) (Form.mk 0 (⟨#[]⟩ : ByteArray) 0 ([] : List Int) ([] : List Form)) g11)]) (w64 (g4 + 1)))
def m_spec_l4Row_l1 (fuel : Nat) (x3 : (List (List Hit))) (v1 : (List Form)) (v2 : (List Int)) (g3 : (List Hit)) (g4 : Int) : Option (List Hit) :=
 match fuel with
 | 0 => none
 | fuel + 1 =>
 (bif (decide (g4 < (v1.length : Int))) then
 (idx v1 g4).bind fun v8 =>
 (idx v2 g4).bind fun v9 =>
 m_spec_l4Row_l2 fuel x3 v1 v2 g3 g4 v8 v9 0 ([] : List Hit)
 else
 some g3)
end
def m_spec_l4Row (fuel : Nat) (x1 : Form) (x2 : (List Form)) (x3 : (List (List Hit))) : Option (List Hit) :=
 (m_spec_l4Vars fuel ([] : List Form) x1 x2).bind fun v1 =>
 (m_spec_l4Depths fuel ([] : List Int) x1 x2 0).bind fun v2 =>
 m_spec_l4Row_l1 fuel x3 v1 v2 ([] : List Hit) 0
mutual
def m_spec_l4List (fuel : Nat) (x1 : (List Bind)) (x2 : (List Form)) (x3 : (List Form)) (x4 : (List Form)) : Option ((List Hit) × Bool) :=
 match fuel with
 | 0 => none
 | fuel + 1 =>
 m_spec_l4List_l2 fuel x1 x2 x3 x4 (-1) 0
def m_spec_l4List_l2 (fuel : Nat) (x1 : (List Bind)) (x2 : (List Form)) (x3 : (List Form)) (x4 : (List Form)) (g1 : Int) (g2 : Int) : Option ((List Hit) × Bool) :=
 match fuel with
 | 0 => none
 | fuel + 1 =>
 (bif (decide ((w64 (g2 + 1)) < (x2.length : Int))) then
 (idx x2 (w64 (g2 + 1))).bind fun v5 =>
 (m_spec_l4Dots fuel v5).bind fun v6 =>
 (bif v6 then
 m_spec_l4List_l2 fuel x1 x2 x3 x4 g2 (w64 (g2 + 1))
 else
 m_spec_l4List_l2 fuel x1 x2 x3 x4 g1 (w64 (g2 + 1)))
 else
 m_spec_l4List_j1 fuel x1 x2 x3 x4 g1)
def m_spec_l4List_l6 (fuel : Nat) (x1 : (List Bind)) (x2 : (List Form)) (x3 : (List Form)) (x4 : (List Form)) (g8 : Int) (g17 : Int) (g18 : (List Hit)) (g32 : Int) (g33 : (List (List Hit))) (g34 : Int) : Option ((List Hit) × Bool) :=
 match fuel with
 | 0 => none
 | fuel + 1 =>
 (bif (decide (0 < g34)) then
 (idx x2 g17).bind fun v37 =>
 (idx x4 g32).bind fun v38 =>
 (m_spec_l4Match fuel x1 v37 x3 v38).bind fun v39 =>
 (bif (!v39.2) then
 some (g18, false)
 else
 chk (decide ((g33.length + [v39.1].length) * 24 ≤ 140737488355328)) <|
 m_spec_l4List_l6 fuel x1 x2 x3 x4 g8 g17 g18 (w64 (g32 + 1)) (g33 ++ [v39.1]) (w64 (g34 - 1)))
 else
 m_spec_l4List_j5 fuel x1 x2 x3 x4 g8 g17 g18 g32 g33)
def m_spec_l4List_j5 (fuel : Nat) (x1 : (List Bind)) (x2 : (List Form)) (x3 : (List Form)) (x4 : (List Form)) (g8 : Int) (g17 : Int) (g18 : (List Hit)) (g42 : Int) (g43 : (List (List Hit))) : Option ((List Hit) × Bool) :=
 match fuel with
 | 0 => none
 | fuel + 1 =>
 (idx x2 g17).bind fun v45 =>
 (m_spec_l4Row fuel v45 x3 g43).bind fun v46 =>
 chk (decide ((g18.length + v46.length) * 192 ≤ 140737488355328)) <|
 m_spec_l4List_l4 fuel x1 x2 x3 x4 g8 (g17 + 1) (g18 ++ v46) g42
def m_spec_l4List_l4 (fuel : Nat) (x1 : (List Bind)) (x2 : (List Form)) (x3 : (List Form)) (x4 : (List Form)) (g8 : Int) (g17 : Int) (g18 : (List Hit)) (g19 : Int) : Option ((List Hit) × Bool) :=
 match fuel with
 | 0 => none
 | fuel + 1 =>
 (bif (decide (g17 < (x2.length : Int))) then
 (idx x2 g17).bind fun v23 =>
 (m_spec_l4Dots fuel v23).bind fun v24 =>
 (bif v24 then
 m_spec_l4List_l4 fuel x1 x2 x3 x4 g8 (g17 + 1) g18 g19
 else
 (bif (decide (g17 ≠ g8)) then
 (idx x2 g17).bind fun v27 =>
 (idx x4 g19).bind fun v28 =>
 (m_spec_l4Match fuel x1 v27 x3 v28).bind fun v29 =>
 (bif (!v29.2) then
 some (g18, false)
 else
 chk (decide ((g18.length + v29.1.length) * 192 ≤ 140737488355328)) <|
 m_spec_l4List_l4 fuel x1 x2 x3 x4 g8 (g17 + 1) (g18 ++ v29.1) (w64 (g19 + 1)))
 else
 m_spec_l4List_l6 fuel x1 x2 x3 x4 g8 g17 g18 g19 ([] : List (List Hit)) (w64 ((x4.length : Int) - (w64 ((x2.length : Int) - 2))))))
 else
 some (g18, true))
def m_spec_l4List_j3 (fuel : Nat) (x1 : (List Bind)) (x2 : (List Form)) (x3 : (List Form)) (x4 : (List Form)) (g8 : Int) : Option ((List Hit) × Bool) :=
 match fuel with
 | 0 => none
 | fuel + 1 =>
 m_spec_l4List_l4 fuel x1 x2 x3 x4 g8 0 ([] : List Hit) 0
def m_spec_l4List_j1 (fuel : Nat) (x1 : (List Bind)) (x2 : (List Form)) (x3 : (List Form)) (x4 : (List Form)) (g8 : Int) : Option ((List Hit) × Bool) :=
 match fuel with
 | 0 => none
 | fuel + 1 =>
 (bif (decide (g8 < 0)) then
 (bif (decide ((x2.length : Int) ≠ (x4.length : Int))) then
 some (([] : List Hit), false)
 else
 (bif (decide (0 ≤ g8)) then
 (bif (decide ((x4.length : Int) < (w64 ((x2.length : Int) - 2)))) then
 some (([] : List Hit), false)
 else
 m_spec_l4List_j3 fuel x1 x2 x3 x4 g8 )
 else
 m_spec_l4List_j3 fuel x1 x2 x3 x4 g8 ))
 else
 (bif (decide (0 ≤ g8)) then
 (bif (decide ((x4.length : Int) < (w64 ((x2.length : Int) - 2)))) then
 some (([] : List Hit), false)
 else
 m_spec_l4List_j3 fuel x1 x2 x3 x4 g8 )
 else
 m_spec_l4List_j3 fuel x1 x2 x3 x4 g8 ))
def m_spec_l4Match (fuel : Nat) (x1 : (List Bind)) (x2 : Form) (x3 : (List Form)) (x4 : Form) : Option ((List Hit) × Bool) :=
 match fuel with
 | 0 => none
 | fuel + 1 =>
 (bif (decide (x2.kind = 1)) then
 (bif (decide (x2.name = (⟨#[95]⟩ : ByteArray))) then
 some (([] : List Hit), true)
 else
 (m_spec_l4In fuel x3 x2).bind fun v3 =>
 (bif v3 then
 (bif (decide (x4.kind = 1)) then
 (m_spec_l3Same fuel x1 x2 x4).bind fun v6 =>
 m_spec_l4Match_j1 fuel  v6
 else
 m_spec_l4Match_j1 fuel  false)
 else
 chk (decide ((([] : List Hit).length + [(Hit.mk x2 0 x4 ([] : List Hit))].length) * 192 ≤ 140737488355328)) <|
 some ((([] : List Hit) ++ [(Hit.mk x2 0 x4 ([] : List Hit))]), true)))
 else
 (bif (decide (x2.kind = 2)) then
 (m_spec_FormSame fuel x2 x4).bind fun v11 =>
 some (([] : List Hit), v11)
 else
 (bif (decide (x4.kind ≠ 3)) then
 some (([] : List Hit), false)
 else
 (m_spec_l4List fuel x1 x2.kids x3 x4.kids).bind fun v13 =>
 some (v13.1, v13.2))))
def m_spec_l4Match_j1 (fuel : Nat) (g7 : Bool) : Option ((List Hit) × Bool) :=
 match fuel with
 | 0 => none
 | fuel + 1 =>
 some (([] : List Hit), g7)
end
def m_laws_szBind (fuel : Nat) (x1 : Bind) (x2 : Int) : Option Int :=
 (bif (decide ((w64 (x2 - (x1.name.size : Int))) < 0)) then
 some (-1)
 else
 (m_laws_szIntS fuel x1.scopes (w64 (x2 - (x1.name.size : Int)))).bind fun v2 =>
 (bif (decide (v2 < 0)) then
 some (-1)
 else
 some v2))
def m_laws_szBindS_l1 (fuel : Nat) (x1 : (List Bind)) (g2 : Int) (g3 : Int) : Option Int :=
 match fuel with
 | 0 => none
 | fuel + 1 =>
 (bif (decide (g3 < (x1.length : Int))) then
 (idx x1 g3).bind fun v7 =>
 (m_laws_szBind fuel v7 g2).bind fun v8 =>
 (bif (decide (v8 < 0)) then
 some (-1)
 else
 m_laws_szBindS_l1 fuel x1 v8 (g3 + 1))
 else
 some g2)
def m_laws_szBindS (fuel : Nat) (x1 : (List Bind)) (x2 : Int) : Option Int :=
 (bif (decide ((w64 (x2 - (x1.length : Int))) < 0)) then
 some (-1)
 else
 m_laws_szBindS_l1 fuel x1 (w64 (x2 - (x1.length : Int))) 0)
def m_laws_szRuleS_l1 (fuel : Nat) (x1 : (List Rule)) (g2 : Int) (g3 : Int) : Option Int :=
 match fuel with
 | 0 => none
 | fuel + 1 =>
 (bif (decide (g3 < (x1.length : Int))) then
 (idx x1 g3).bind fun v7 =>
 (m_laws_szRule fuel v7 g2).bind fun v8 =>
 (bif (decide (v8 < 0)) then
 some (-1)
 else
 m_laws_szRuleS_l1 fuel x1 v8 (g3 + 1))
 else
 some g2)
def m_laws_szRuleS (fuel : Nat) (x1 : (List Rule)) (x2 : Int) : Option Int :=
 (bif (decide ((w64 (x2 - (x1.length : Int))) < 0)) then
 some (-1)
 else
 m_laws_szRuleS_l1 fuel x1 (w64 (x2 - (x1.length : Int))) 0)
def m_laws_toBind (fuel : Nat) (x1 : Bind) : Option Bind :=
 (m_laws_toIntS fuel x1.scopes).bind fun v1 =>
 some (Bind.mk x1.name v1 x1.id)
def m_laws_toBindS_l1 (fuel : Nat) (x1 : (List Bind)) (g2 : Int) (g3 : (List Bind)) : Option (List Bind) :=
 match fuel with
 | 0 => none
 | fuel + 1 =>
 (bif (decide (g2 < (x1.length : Int))) then
 (idx x1 g2).bind fun v7 =>
 (m_laws_toBind fuel v7).bind fun v8 =>
 (idx g3 g2).bind fun v9 =>
 m_laws_toBindS_l1 fuel x1 (g2 + 1) (g3.set g2.toNat v8)
 else
 some g3)
def m_laws_toBindS (fuel : Nat) (x1 : (List Bind)) : Option (List Bind) :=
 chk (decide (0 ≤ (x1.length : Int)) && decide ((x1.length : Int).toNat * 48 ≤ 140737488355328)) <|
 m_laws_toBindS_l1 fuel x1 0 (List.replicate (x1.length : Int).toNat (Bind.mk (⟨#[]⟩ : ByteArray) ([] : List Int) 0))
def m_laws_toRuleS_l1 (fuel : Nat) (x1 : (List Rule)) (g2 : Int) (g3 : (List Rule)) : Option (List Rule) :=
 match fuel with
 | 0 => none
 | fuel + 1 =>
 (bif (decide (g2 < (x1.length : Int))) then
 (idx x1 g2).bind fun v7 =>
 (m_laws_toRule fuel v7).bind fun v8 =>
 (idx g3 g2).bind fun v9 =>
 m_laws_toRuleS_l1 fuel x1 (g2 + 1) (g3.set g2.toNat v8)
 else
 some g3)
def m_laws_toRuleS (fuel : Nat) (x1 : (List Rule)) : Option (List Rule) :=
 chk (decide (0 ≤ (x1.length : Int)) && decide ((x1.length : Int).toNat * 160 ≤ 140737488355328)) <|
 m_laws_toRuleS_l1 fuel x1 0 (List.replicate (x1.length : Int).toNat (Rule.mk (Form.mk 0 (⟨#[]⟩ : ByteArray) 0 ([] : List Int) ([] : List Form)) (Form.mk 0 (⟨#[]⟩ : ByteArray) 0 ([] : List Int) ([] : List Form))))
def m_impl_BindsValid_1 (fuel : Nat) (x1 : Bind) (o1 : Bind) : Option Bool :=
 (bif (decide (x1.name = o1.name)) then
 (m_slices_Equal_int fuel x1.scopes o1.scopes).bind fun v2 =>
 some v2
 else
 some false)
def m_slices_IndexFunc_Bind_BindsValid_1_l1 (fuel : Nat) (x1 : (List Bind)) (o1 : Bind) (g1 : Int) : Option Int :=
 match fuel with
 | 0 => none
 | fuel + 1 =>
 (bif (decide (g1 < (x1.length : Int))) then
 (idx x1 g1).bind fun v5 =>
 (m_impl_BindsValid_1 fuel v5 o1).bind fun v6 =>
 (bif v6 then
 some g1
 else
 m_slices_IndexFunc_Bind_BindsValid_1_l1 fuel x1 o1 (g1 + 1))
 else
 some (-1))
def m_slices_IndexFunc_Bind_BindsValid_1 (fuel : Nat) (x1 : (List Bind)) (o1 : Bind) : Option Int :=
 m_slices_IndexFunc_Bind_BindsValid_1_l1 fuel x1 o1 0
def m_slices_ContainsFunc_Bind_BindsValid_1 (fuel : Nat) (x1 : (List Bind)) (o1 : Bind) : Option Bool :=
 (m_slices_IndexFunc_Bind_BindsValid_1 fuel x1 o1).bind fun v1 =>
 some (decide (0 ≤ v1))
mutual
def m_impl_BindsValid_j2 (fuel : Nat) (x1 : (List Bind)) (g1 : Int) (v5 : Bind) (g11 : Bool) : Option Bool :=
 match fuel with
 | 0 => none
 | fuel + 1 =>
 (bif g11 then
 some false
 else
 (sub x1 0 g1).bind fun v14 =>
 (m_slices_ContainsFunc_Bind_BindsValid_1 fuel v14 v5).bind fun v15 =>
 (bif v15 then
 some false
 else
 m_impl_BindsValid_l1 fuel x1 (g1 + 1)))
def m_impl_BindsValid_l1 (fuel : Nat) (x1 : (List Bind)) (g1 : Int) : Option Bool :=
 match fuel with
 | 0 => none
 | fuel + 1 =>
 (bif (decide (g1 < (x1.length : Int))) then
 (idx x1 g1).bind fun v5 =>
 (m_impl_NameValid fuel v5.name).bind fun v6 =>
 (bif (!v6) then
 m_impl_BindsValid_j2 fuel x1 g1 v5 true
 else
 (m_impl_scopesOk fuel v5.scopes).bind fun v8 =>
 (bif (!v8) then
 m_impl_BindsValid_j2 fuel x1 g1 v5 true
 else
 (m_impl_within fuel v5.id 1 999).bind fun v10 =>
 m_impl_BindsValid_j2 fuel x1 g1 v5 (!v10)))
 else
 some (decide ((x1.length : Int) ≤ 60)))
end
def m_impl_BindsValid (fuel : Nat) (x1 : (List Bind)) : Option Bool :=
 m_impl_BindsValid_l1 fuel x1 0
def m_impl_rulesOk_1 (fuel : Nat) (x1 : Rule) (o1 : (List Form)) : Option Bool :=
 (m_impl_RuleValid fuel x1 o1).bind fun v1 =>
 some (!v1)
def m_slices_IndexFunc_Rule_rulesOk_1_l1 (fuel : Nat) (x1 : (List Rule)) (o1 : (List Form)) (g1 : Int) : Option Int :=
 match fuel with
 | 0 => none
 | fuel + 1 =>
 (bif (decide (g1 < (x1.length : Int))) then
 (idx x1 g1).bind fun v5 =>
 (m_impl_rulesOk_1 fuel v5 o1).bind fun v6 =>
 (bif v6 then
 some g1
 else
 m_slices_IndexFunc_Rule_rulesOk_1_l1 fuel x1 o1 (g1 + 1))
 else
 some (-1))
def m_slices_IndexFunc_Rule_rulesOk_1 (fuel : Nat) (x1 : (List Rule)) (o1 : (List Form)) : Option Int :=
 m_slices_IndexFunc_Rule_rulesOk_1_l1 fuel x1 o1 0
def m_slices_ContainsFunc_Rule_rulesOk_1 (fuel : Nat) (x1 : (List Rule)) (o1 : (List Form)) : Option Bool :=
 (m_slices_IndexFunc_Rule_rulesOk_1 fuel x1 o1).bind fun v1 =>
 some (decide (0 ≤ v1))
def m_impl_rulesOk (fuel : Nat) (x1 : (List Rule)) (x2 : (List Form)) : Option Bool :=
 (bif (decide ((x1.length : Int) ≤ 9)) then
 (m_impl_literalsOk fuel x2).bind fun v2 =>
 (bif v2 then
 (m_slices_ContainsFunc_Rule_rulesOk_1 fuel x1 x2).bind fun v4 =>
 some (!v4)
 else
 some false)
 else
 some false)
def m_laws_eqBind (fuel : Nat) (x1 : Bind) (x2 : Bind) : Option Bool :=
 (bif (decide (x1.name ≠ x2.name)) then
 some false
 else
 (m_laws_eqIntS fuel x1.scopes x2.scopes).bind fun v2 =>
 (bif (!v2) then
 some false
 else
 (bif (decide (x1.id ≠ x2.id)) then
 some false
 else
 some true)))
def m_laws_eqBindS_l1 (fuel : Nat) (x1 : (List Bind)) (x2 : (List Bind)) (g2 : Int) : Option Bool :=
 match fuel with
 | 0 => none
 | fuel + 1 =>
 (bif (decide (g2 < (x1.length : Int))) then
 (idx x1 g2).bind fun v6 =>
 (idx x2 g2).bind fun v7 =>
 (m_laws_eqBind fuel v6 v7).bind fun v8 =>
 (bif (!v8) then
 some false
 else
 m_laws_eqBindS_l1 fuel x1 x2 (g2 + 1))
 else
 some true)
def m_laws_eqBindS (fuel : Nat) (x1 : (List Bind)) (x2 : (List Bind)) : Option Bool :=
 (bif (decide ((x1.length : Int) ≠ (x2.length : Int))) then
 some false
 else
 m_laws_eqBindS_l1 fuel x1 x2 0)
def m_laws_eqRuleS_l1 (fuel : Nat) (x1 : (List Rule)) (x2 : (List Rule)) (g2 : Int) : Option Bool :=
 match fuel with
 | 0 => none
 | fuel + 1 =>
 (bif (decide (g2 < (x1.length : Int))) then
 (idx x1 g2).bind fun v6 =>
 (idx x2 g2).bind fun v7 =>
 (m_laws_eqRule fuel v6 v7).bind fun v8 =>
 (bif (!v8) then
 some false
 else
 m_laws_eqRuleS_l1 fuel x1 x2 (g2 + 1))
 else
 some true)
def m_laws_eqRuleS (fuel : Nat) (x1 : (List Rule)) (x2 : (List Rule)) : Option Bool :=
 (bif (decide ((x1.length : Int) ≠ (x2.length : Int))) then
 some false
 else
 m_laws_eqRuleS_l1 fuel x1 x2 0)
def m_slices_Index_int_l1 (fuel : Nat) (x1 : (List Int)) (x2 : Int) (g1 : Int) : Option Int :=
 match fuel with
 | 0 => none
 | fuel + 1 =>
 (bif (decide (g1 < (x1.length : Int))) then
 (idx x1 g1).bind fun v5 =>
 (bif (decide (x2 = v5)) then
 some g1
 else
 m_slices_Index_int_l1 fuel x1 x2 (g1 + 1))
 else
 some (-1))
def m_slices_Index_int (fuel : Nat) (x1 : (List Int)) (x2 : Int) : Option Int :=
 m_slices_Index_int_l1 fuel x1 x2 0
def m_slices_Contains_int (fuel : Nat) (x1 : (List Int)) (x2 : Int) : Option Bool :=
 (m_slices_Index_int fuel x1 x2).bind fun v1 =>
 some (decide (0 ≤ v1))
def m_impl_ScopesWithin_1 (fuel : Nat) (x1 : Int) (o1 : (List Int)) : Option Bool :=
 (m_slices_Contains_int fuel o1 x1).bind fun v1 =>
 some (!v1)
def m_slices_IndexFunc_int_ScopesWithin_1_l1 (fuel : Nat) (x1 : (List Int)) (o1 : (List Int)) (g1 : Int) : Option Int :=
 match fuel with
 | 0 => none
 | fuel + 1 =>
 (bif (decide (g1 < (x1.length : Int))) then
 (idx x1 g1).bind fun v5 =>
 (m_impl_ScopesWithin_1 fuel v5 o1).bind fun v6 =>
 (bif v6 then
 some g1
 else
 m_slices_IndexFunc_int_ScopesWithin_1_l1 fuel x1 o1 (g1 + 1))
 else
 some (-1))
def m_slices_IndexFunc_int_ScopesWithin_1 (fuel : Nat) (x1 : (List Int)) (o1 : (List Int)) : Option Int :=
 m_slices_IndexFunc_int_ScopesWithin_1_l1 fuel x1 o1 0
def m_slices_ContainsFunc_int_ScopesWithin_1 (fuel : Nat) (x1 : (List Int)) (o1 : (List Int)) : Option Bool :=
 (m_slices_IndexFunc_int_ScopesWithin_1 fuel x1 o1).bind fun v1 =>
 some (decide (0 ≤ v1))
def m_impl_ScopesWithin (fuel : Nat) (x1 : (List Int)) (x2 : (List Int)) : Option Bool :=
 (m_slices_ContainsFunc_int_ScopesWithin_1 fuel x1 x2).bind fun v1 =>
 some (!v1)
mutual
def m_impl_fitting_j2 (fuel : Nat) (x1 : (List Bind)) (x2 : Form) (g1 : (List Int)) (g2 : Int) (g9 : Bool) : Option (List Int) :=
 match fuel with
 | 0 => none
 | fuel + 1 =>
 (bif g9 then
 chk (decide ((g1.length + [g2].length) * 8 ≤ 140737488355328)) <|
 m_impl_fitting_l1 fuel x1 x2 (g1 ++ [g2]) (g2 + 1)
 else
 m_impl_fitting_l1 fuel x1 x2 g1 (g2 + 1))
def m_impl_fitting_l1 (fuel : Nat) (x1 : (List Bind)) (x2 : Form) (g1 : (List Int)) (g2 : Int) : Option (List Int) :=
 match fuel with
 | 0 => none
 | fuel + 1 =>
 (bif (decide (g2 < (x1.length : Int))) then
 (idx x1 g2).bind fun v6 =>
 (bif (decide (v6.name = x2.name)) then
 (m_impl_ScopesWithin fuel v6.scopes x2.scopes).bind fun v8 =>
 m_impl_fitting_j2 fuel x1 x2 g1 g2 v8
 else
 m_impl_fitting_j2 fuel x1 x2 g1 g2 false)
 else
 some g1)
end
def m_impl_fitting (fuel : Nat) (x1 : (List Bind)) (x2 : Form) : Option (List Int) :=
 m_impl_fitting_l1 fuel x1 x2 ([] : List Int) 0
def m_impl_bound_1 (fuel : Nat) (x1 : Int) (o1 : (List Bind)) (o2 : Int) : Option Bool :=
 (idx o1 x1).bind fun v1 =>
 (idx o1 o2).bind fun v2 =>
 (m_impl_ScopesWithin fuel v1.scopes v2.scopes).bind fun v3 =>
 some (!v3)
def m_slices_IndexFunc_int_bound_1_l1 (fuel : Nat) (x1 : (List Int)) (o1 : (List Bind)) (o2 : Int) (g1 : Int) : Option Int :=
 match fuel with
 | 0 => none
 | fuel + 1 =>
 (bif (decide (g1 < (x1.length : Int))) then
 (idx x1 g1).bind fun v5 =>
 (m_impl_bound_1 fuel v5 o1 o2).bind fun v6 =>
 (bif v6 then
 some g1
 else
 m_slices_IndexFunc_int_bound_1_l1 fuel x1 o1 o2 (g1 + 1))
 else
 some (-1))
def m_slices_IndexFunc_int_bound_1 (fuel : Nat) (x1 : (List Int)) (o1 : (List Bind)) (o2 : Int) : Option Int :=
 m_slices_IndexFunc_int_bound_1_l1 fuel x1 o1 o2 0
def m_slices_ContainsFunc_int_bound_1 (fuel : Nat) (x1 : (List Int)) (o1 : (List Bind)) (o2 : Int) : Option Bool :=
 (m_slices_IndexFunc_int_bound_1 fuel x1 o1 o2).bind fun v1 =>
 some (decide (0 ≤ v1))
def m_impl_bound_l1 (fuel : Nat) (x1 : (List Bind)) (v1 : (List Int)) (g3 : Int) : Option (Int × Int) :=
 match fuel with
 | 0 => none
 | fuel + 1 =>
 (bif (decide (g3 < (v1.length : Int))) then
 (idx v1 g3).bind fun v7 =>
 (m_slices_ContainsFunc_int_bound_1 fuel v1 x1 v7).bind fun v8 =>
 (bif (!v8) then
 some (v7, 1)
 else
 m_impl_bound_l1 fuel x1 v1 (g3 + 1))
 else
 some (0, 2))
def m_impl_bound (fuel : Nat) (x1 : (List Bind)) (x2 : Form) : Option (Int × Int) :=
 (m_impl_fitting fuel x1 x2).bind fun v1 =>
 (bif (decide ((v1.length : Int) = 0)) then
 some (0, 0)
 else
 m_impl_bound_l1 fuel x1 v1 0)
mutual
def m_spec_FirstRule_l2 (fuel : Nat) (x1 : (List Bind)) (x2 : (List Rule)) (x3 : (List Form)) (x4 : Form) (g9 : Int) : Option (Int × Bool) :=
 match fuel with
 | 0 => none
 | fuel + 1 =>
 (bif (decide (g9 < (x2.length : Int))) then
 (idx x2 g9).bind fun v13 =>
 (m_spec_l4Match fuel x1 v13.pattern x3 x4).bind fun v14 =>
 (bif v14.2 then
 some (g9, true)
 else
 m_spec_FirstRule_l2 fuel x1 x2 x3 x4 (g9 + 1))
 else
 some (0, false))
def m_spec_FirstRule_j1 (fuel : Nat) (x1 : (List Bind)) (x2 : (List Rule)) (x3 : (List Form)) (x4 : Form) (g6 : Bool) : Option (Int × Bool) :=
 match fuel with
 | 0 => none
 | fuel + 1 =>
 (bif g6 then
 some (0, false)
 else
 m_spec_FirstRule_l2 fuel x1 x2 x3 x4 0)
end
def m_spec_FirstRule (fuel : Nat) (x1 : (List Bind)) (x2 : (List Rule)) (x3 : (List Form)) (x4 : Form) : Option (Int × Bool) :=
 (m_spec_BindsValid fuel x1).bind fun v1 =>
 (bif (!v1) then
 m_spec_FirstRule_j1 fuel x1 x2 x3 x4 true
 else
 (m_spec_l5Rules fuel x2 x3).bind fun v3 =>
 (bif (!v3) then
 m_spec_FirstRule_j1 fuel x1 x2 x3 x4 true
 else
 (m_spec_FormValid fuel x4).bind fun v5 =>
 m_spec_FirstRule_j1 fuel x1 x2 x3 x4 (!v5)))
def m_impl_FindName_j1 (fuel : Nat) (x1 : (List Bind)) (x2 : Form) (g4 : Bool) : Option (Int × Int) :=
 match fuel with
 | 0 => none
 | fuel + 1 =>
 (bif g4 then
 some (0, 0)
 else
 (m_impl_bound fuel x1 x2).bind fun v7 =>
 (bif (decide (v7.2 ≠ 1)) then
 some (0, v7.2)
 else
 (idx x1 v7.1).bind fun v9 =>
 some (v9.id, 1)))
def m_impl_FindName (fuel : Nat) (x1 : (List Bind)) (x2 : Form) : Option (Int × Int) :=
 (m_impl_BindsValid fuel x1).bind fun v1 =>
 (bif (!v1) then
 m_impl_FindName_j1 fuel x1 x2 true
 else
 (m_impl_isName fuel x2).bind fun v3 =>
 m_impl_FindName_j1 fuel x1 x2 (!v3))
def m_impl_SameReference_j1 (fuel : Nat) (x1 : (List Bind)) (x2 : Form) (x3 : Form) (g6 : Bool) : Option Bool :=
 match fuel with
 | 0 => none
 | fuel + 1 =>
 (bif g6 then
 some false
 else
 (m_impl_FindName fuel x1 x2).bind fun v9 =>
 (m_impl_FindName fuel x1 x3).bind fun v10 =>
 (bif (decide (v9.2 = 1)) then
 (bif (decide (v10.2 = 1)) then
 (bif (decide (v9.1 = v10.1)) then
 some true
 else
 (bif (decide (v9.2 = 0)) then
 (bif (decide (v10.2 = 0)) then
 some (decide (x2.name = x3.name))
 else
 some false)
 else
 some false))
 else
 (bif (decide (v9.2 = 0)) then
 (bif (decide (v10.2 = 0)) then
 some (decide (x2.name = x3.name))
 else
 some false)
 else
 some false))
 else
 (bif (decide (v9.2 = 0)) then
 (bif (decide (v10.2 = 0)) then
 some (decide (x2.name = x3.name))
 else
 some false)
 else
 some false)))
def m_impl_SameReference (fuel : Nat) (x1 : (List Bind)) (x2 : Form) (x3 : Form) : Option Bool :=
 (m_impl_BindsValid fuel x1).bind fun v1 =>
 (bif (!v1) then
 m_impl_SameReference_j1 fuel x1 x2 x3 true
 else
 (m_impl_isName fuel x2).bind fun v3 =>
 (bif (!v3) then
 m_impl_SameReference_j1 fuel x1 x2 x3 true
 else
 (m_impl_isName fuel x3).bind fun v5 =>
 m_impl_SameReference_j1 fuel x1 x2 x3 (!v5)))
mutual
def m_impl_match (fuel : Nat) (x1 : (List Bind)) (x2 : Form) (x3 : (List Form)) (x4 : Form) : Option ((List Hit) × Bool) :=
 match fuel with
 | 0 => none
 | fuel + 1 =>
 (bif (decide (x2.kind = 1)) then
 (bif (decide (x2.name = (⟨#[95]⟩ : ByteArray))) then
 some (([] : List Hit), true)
 else
 (m_impl_isIn fuel x3 x2).bind fun v3 =>
 (bif v3 then
 (m_impl_SameReference fuel x1 x2 x4).bind fun v5 =>
 some (([] : List Hit), v5)
 else
 (m_impl_copyForm fuel x2).bind fun v6 =>
 (m_impl_copyForm fuel x4).bind fun v7 =>
 some ([(Hit.mk v6 0 v7 ([] : List Hit))], true)))
 else
 (bif (decide (x2.kind = 2)) then
 (m_impl_FormSame fuel x2 x4).bind fun v9 =>
 some (([] : List Hit), v9)
 else
 (bif (decide (x4.kind ≠ 3)) then
 some (([] : List Hit), false)
 else
 (m_impl_dotsAt fuel x2.kids).bind fun v11 =>
 (bif (decide (v11 < 0)) then
 (bif (decide ((x2.kids.length : Int) ≠ (x4.kids.length : Int))) then
 some (([] : List Hit), false)
 else
 m_impl_match_l2 fuel x1 x2 x3 x4 0 ([] : List Hit))
 else
 (bif (decide ((w64 ((x4.kids.length : Int) - (w64 ((x2.kids.length : Int) - 2)))) < 0)) then
 some (([] : List Hit), false)
 else
 m_impl_match_l4 fuel x1 x2 x3 x4 v11 0 ([] : List Hit))))))
def m_impl_match_l2 (fuel : Nat) (x1 : (List Bind)) (x2 : Form) (x3 : (List Form)) (x4 : Form) (g14 : Int) (g15 : (List Hit)) : Option ((List Hit) × Bool) :=
 match fuel with
 | 0 => none
 | fuel + 1 =>
 (bif (decide (g14 < (x2.kids.length : Int))) then
 (idx x2.kids g14).bind fun v19 =>
 (idx x4.kids g14).bind fun v20 =>
 (m_impl_match_1 fuel v19 v20 x1 x3 g15).bind fun v21 =>
 (bif (!v21.1) then
 some (([] : List Hit), false)
 else
 m_impl_match_l2 fuel x1 x2 x3 x4 (g14 + 1) v21.2)
 else
 m_impl_match_j1 fuel  g15)
def m_impl_match_j1 (fuel : Nat) (g23 : (List Hit)) : Option ((List Hit) × Bool) :=
 match fuel with
 | 0 => none
 | fuel + 1 =>
 some (g23, true)
def m_impl_match_l4 (fuel : Nat) (x1 : (List Bind)) (x2 : Form) (x3 : (List Form)) (x4 : Form) (v11 : Int) (g26 : Int) (g27 : (List Hit)) : Option ((List Hit) × Bool) :=
 match fuel with
 | 0 => none
 | fuel + 1 =>
 (bif (decide (g26 < (w64 (v11 - 1)))) then
 (idx x2.kids g26).bind fun v30 =>
 (idx x4.kids g26).bind fun v31 =>
 (m_impl_match_1 fuel v30 v31 x1 x3 g27).bind fun v32 =>
 (bif (!v32.1) then
 some (([] : List Hit), false)
 else
 m_impl_match_l4 fuel x1 x2 x3 x4 v11 (w64 (g26 + 1)) v32.2)
 else
 m_impl_match_j3 fuel x1 x2 x3 x4 v11 g27)
def m_impl_match_l6 (fuel : Nat) (x1 : (List Bind)) (x2 : Form) (x3 : (List Form)) (x4 : Form) (v11 : Int) (g34 : (List Hit)) (v37 : (List Form) × (List Int)) (g38 : (List Hit)) (g39 : Int) : Option ((List Hit) × Bool) :=
 match fuel with
 | 0 => none
 | fuel + 1 =>
 (bif (decide (g39 < (v37.1.length : Int))) then
 (idx v37.1 g39).bind fun v43 =>
 (m_impl_copyForm fuel v43).bind fun v44 =>
 (idx v37.2 g39).bind fun v45 =>
 chk (decide ((g38.length + [(Hit.mk v44 (w64 (v45 + 1)) (Form.mk 0 (⟨#[]⟩ : ByteArray) 0 ([] : List Int) ([] : List Form)) ([] : List Hit))].length) * 192 ≤ 140737488355328)) <|
 m_impl_match_l6 fuel x1 x2 x3 x4 v11 g34 v37 (g38 ++ [(Hit.mk v44 (w64 (v45 + 1)) (Form.mk 0 (⟨#[]⟩ : ByteArray) 0 ([] : List Int) ([] : List Form)) ([] : List Hit))]) (g39 + 1)
 else
 m_impl_match_j5 fuel x1 x2 x3 x4 v11 g34 g38)
def m_impl_match_l9 (fuel : Nat) (x1 : (List Bind)) (x2 : Form) (x3 : (List Form)) (x4 : Form) (v11 : Int) (g34 : (List Hit)) (v49 : (List Form)) (g50 : Int) (g51 : (List Hit)) (v57 : (List Hit) × Bool) (g59 : Int) (g60 : (List Hit)) : Option ((List Hit) × Bool) :=
 match fuel with
 | 0 => none
 | fuel + 1 =>
 (bif (decide (g59 < (g51.length : Int))) then
 (idx g60 g59).bind fun v63 =>
 (idx v57.1 g59).bind fun v64 =>
 chk (decide ((v63.many.length + [(Hit.mk (Form.mk 0 (⟨#[]⟩ : ByteArray) 0 ([] : List Int) ([] : List Form)) 0 (Form.mk 0 (⟨#[]⟩ : ByteArray) 0 ([] : List Int) ([] : List Form)) ([] : List Hit))].length) * 192 ≤ 140737488355328)) <|
 (idx (v63.many ++ [(Hit.mk (Form.mk 0 (⟨#[]⟩ : ByteArray) 0 ([] : List Int) ([] : List Form)) 0 (Form.mk 0 (⟨#[]⟩ : ByteArray) 0 ([] : List Int) ([] : List Form)) ([] : List Hit))]) (v63.many.length : Int)).bind fun v66 =>
 (idx g60 g59).bind fun v67 =>
 m_impl_match_l9 fuel x1 x2 x3 x4 v11 g34 v49 g50 g51 v57 (w64 (g59 + 1)) (g60.set g59.toNat (Hit.mk v63.name v63.depth v63.one ((v63.many ++ [(Hit.mk (Form.mk 0 (⟨#[]⟩ : ByteArray) 0 ([] : List Int) ([] : List Form)) 0 (Form.mk 0 (⟨#[]⟩ : ByteArray) 0 ([] : List Int) ([] : List Form)) ([] : List Hit))]).set (v63.many.length : Int).toNat v64)))
 else
 m_impl_match_l8 fuel x1 x2 x3 x4 v11 g34 v49 (w64 (g50 + 1)) g60)
def m_impl_match_l8 (fuel : Nat) (x1 : (List Bind)) (x2 : Form) (x3 : (List Form)) (x4 : Form) (v11 : Int) (g34 : (List Hit)) (v49 : (List Form)) (g50 : Int) (g51 : (List Hit)) : Option ((List Hit) × Bool) :=
 match fuel with
 | 0 => none
 | fuel + 1 =>
 (bif (decide (g50 < (v49.length : Int))) then
 (idx v49 g50).bind fun v55 =>
 (idx x2.kids (w64 (v11 - 1))).bind fun v56 =>
 (m_impl_match fuel x1 v56 x3 v55).bind fun v57 =>
 (bif (!v57.2) then
 some (([] : List Hit), false)
 else
 m_impl_match_l9 fuel x1 x2 x3 x4 v11 g34 v49 g50 g51 v57 0 g51)
 else
 m_impl_match_j7 fuel x1 x2 x3 x4 v11 g34 g51)
def m_impl_match_l10 (fuel : Nat) (x1 : (List Bind)) (x2 : Form) (x3 : (List Form)) (x4 : Form) (v11 : Int) (g71 : Int) (g72 : (List Hit)) : Option ((List Hit) × Bool) :=
 match fuel with
 | 0 => none
 | fuel + 1 =>
 (bif (decide (g71 < (x2.kids.length : Int))) then
 (idx x2.kids g71).bind fun v76 =>
 (idx x4.kids (w64 ((w64 ((w64 ((w64 ((w64 (v11 - 1)) + (w64 ((x4.kids.length : Int) - (w64 ((x2.kids.length : Int) - 2)))))) + g71)) - v11)) - 1))).bind fun v77 =>
 (m_impl_match_1 fuel v76 v77 x1 x3 g72).bind fun v78 =>
 (bif (!v78.1) then
 some (([] : List Hit), false)
 else
 m_impl_match_l10 fuel x1 x2 x3 x4 v11 (g71 + 1) v78.2)
 else
 some (g72, true))
def m_impl_match_j7 (fuel : Nat) (x1 : (List Bind)) (x2 : Form) (x3 : (List Form)) (x4 : Form) (v11 : Int) (g34 : (List Hit)) (g68 : (List Hit)) : Option ((List Hit) × Bool) :=
 match fuel with
 | 0 => none
 | fuel + 1 =>
 chk (decide ((g34.length + g68.length) * 192 ≤ 140737488355328)) <|
 m_impl_match_l10 fuel x1 x2 x3 x4 v11 (w64 (v11 + 1)) (g34 ++ g68)
def m_impl_match_j5 (fuel : Nat) (x1 : (List Bind)) (x2 : Form) (x3 : (List Form)) (x4 : Form) (v11 : Int) (g34 : (List Hit)) (g47 : (List Hit)) : Option ((List Hit) × Bool) :=
 match fuel with
 | 0 => none
 | fuel + 1 =>
 (sub x4.kids (w64 (v11 - 1)) (w64 ((w64 (v11 - 1)) + (w64 ((x4.kids.length : Int) - (w64 ((x2.kids.length : Int) - 2))))))).bind fun v49 =>
 m_impl_match_l8 fuel x1 x2 x3 x4 v11 g34 v49 0 g47
def m_impl_match_j3 (fuel : Nat) (x1 : (List Bind)) (x2 : Form) (x3 : (List Form)) (x4 : Form) (v11 : Int) (g34 : (List Hit)) : Option ((List Hit) × Bool) :=
 match fuel with
 | 0 => none
 | fuel + 1 =>
 (idx x2.kids (w64 (v11 - 1))).bind fun v36 =>
 (m_impl_varsOf fuel v36 x3).bind fun v37 =>
 m_impl_match_l6 fuel x1 x2 x3 x4 v11 g34 v37 ([] : List Hit) 0
def m_impl_match_1 (fuel : Nat) (x1 : Form) (x2 : Form) (o1 : (List Bind)) (o2 : (List Form)) (o3 : (List Hit)) : Option (Bool × (List Hit)) :=
 match fuel with
 | 0 => none
 | fuel + 1 =>
 (m_impl_match fuel o1 x1 o2 x2).bind fun v1 =>
 chk (decide ((o3.length + v1.1.length) * 192 ≤ 140737488355328)) <|
 some (v1.2, (o3 ++ v1.1))
end
mutual
def m_impl_FirstRule_l2 (fuel : Nat) (x1 : (List Bind)) (x2 : (List Rule)) (x3 : (List Form)) (x4 : Form) (g9 : Int) : Option (Int × Bool) :=
 match fuel with
 | 0 => none
 | fuel + 1 =>
 (bif (decide (g9 < (x2.length : Int))) then
 (idx x2 g9).bind fun v13 =>
 (m_impl_match fuel x1 v13.pattern x3 x4).bind fun v14 =>
 (bif v14.2 then
 some (g9, true)
 else
 m_impl_FirstRule_l2 fuel x1 x2 x3 x4 (g9 + 1))
 else
 some (0, false))
def m_impl_FirstRule_j1 (fuel : Nat) (x1 : (List Bind)) (x2 : (List Rule)) (x3 : (List Form)) (x4 : Form) (g6 : Bool) : Option (Int × Bool) :=
 match fuel with
 | 0 => none
 | fuel + 1 =>
 (bif g6 then
 some (0, false)
 else
 m_impl_FirstRule_l2 fuel x1 x2 x3 x4 0)
end
def m_impl_FirstRule (fuel : Nat) (x1 : (List Bind)) (x2 : (List Rule)) (x3 : (List Form)) (x4 : Form) : Option (Int × Bool) :=
 (m_impl_BindsValid fuel x1).bind fun v1 =>
 (bif (!v1) then
 m_impl_FirstRule_j1 fuel x1 x2 x3 x4 true
 else
 (m_impl_rulesOk fuel x2 x3).bind fun v3 =>
 (bif (!v3) then
 m_impl_FirstRule_j1 fuel x1 x2 x3 x4 true
 else
 (m_impl_FormValid fuel x4).bind fun v5 =>
 m_impl_FirstRule_j1 fuel x1 x2 x3 x4 (!v5)))
def m_laws_FnExactFirstRule_j1 (fuel : Nat) (x1 : (List Bind)) (x2 : (List Rule)) (x3 : (List Form)) (x4 : Form) (v14 : (List Bind)) (v15 : (List Rule)) (v16 : (List Form)) (v17 : Form) (g20 : Bool) : Option Bool :=
 match fuel with
 | 0 => none
 | fuel + 1 =>
 (bif g20 then
 some false
 else
 (m_laws_toBindS fuel x1).bind fun v23 =>
 (m_laws_eqBindS fuel v14 v23).bind fun v24 =>
 (bif (!v24) then
 some false
 else
 (m_laws_toRuleS fuel x2).bind fun v26 =>
 (m_laws_eqRuleS fuel v15 v26).bind fun v27 =>
 (bif (!v27) then
 some false
 else
 (m_laws_toFormS fuel x3).bind fun v29 =>
 (m_laws_eqFormS fuel v16 v29).bind fun v30 =>
 (bif (!v30) then
 some false
 else
 (m_laws_toForm fuel x4).bind fun v32 =>
 (m_laws_eqForm fuel v17 v32).bind fun v33 =>
 (bif (!v33) then
 some false
 else
 some true)))))
end Go.Abs
