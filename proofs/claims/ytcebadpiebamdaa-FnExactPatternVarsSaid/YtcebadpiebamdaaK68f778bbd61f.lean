/- A part of the proof: what the functions that the law calls answer, as pure values. -/
import Derived.Test.YtcebadpiebamdaaK433bdd507a07
import Derived.Test.YtcebadpiebamdaaKd5f769f9ceb4
set_option linter.unusedSimpArgs false
set_option linter.unusedVariables false
set_option maxHeartbeats 4000000
namespace Go.Abs
def m_impl_SameReference_j1 (fuel : Nat) (x1 : (List Bind)) (x2 : Form) (x3 : Form) (g6 : Bool) : Option Bool :=
 match fuel with
 | 0 => none
 | fuel + 1 =>
 (bif g6 then
 some false
 else
 (m_impl_FindName fuel x1 x2).bind fun v9 =>
 (m_impl_FindName fuel x1 x3).bind fun v10 =>
 (bif (decide (v9.2 = 1)) then
 (bif (decide (v10.2 = 1)) then
 (bif (decide (v9.1 = v10.1)) then
 some true
 else
 (bif (decide (v9.2 = 0)) then
 (bif (decide (v10.2 = 0)) then
 some (decide (x2.name = x3.name))
 else
 some false)
 else
 some false))
 else
 (bif (decide (v9.2 = 0)) then
 (bif (decide (v10.2 = 0)) then
 some (decide (x2.name = x3.name))
 else
 some false)
 else
 some false))
 else
 (bif (decide (v9.2 = 0)) then
 (bif (decide (v10.2 = 0)) then
 some (decide (x2.name = x3.name))
 else
 some false)
 else
 some false)))
def m_impl_SameReference (fuel : Nat) (x1 : (List Bind)) (x2 : Form) (x3 : Form) : Option Bool :=
 (m_impl_BindsValid fuel x1).bind fun v1 =>
 (bif (!v1) then
 m_impl_SameReference_j1 fuel x1 x2 x3 true
 else
 (m_impl_isName fuel x2).bind fun v3 =>
 (bif (!v3) then
 m_impl_SameReference_j1 fuel x1 x2 x3 true
 else
 (m_impl_isName fuel x3).bind fun v5 =>
 m_impl_SameReference_j1 fuel x1 x2 x3 (!v5)))
mutual
def m_impl_match (fuel : Nat) (x1 : (List Bind)) (x2 : Form) (x3 : (List Form)) (x4 : Form) : Option ((List Hit) × Bool) :=
 match fuel with
 | 0 => none
 | fuel + 1 =>
 (bif (decide (x2.kind = 1)) then
 (bif (decide (x2.name = (⟨#[95]⟩ : ByteArray))) then
 some (([] : List Hit), true)
 else
 (m_impl_isIn fuel x3 x2).bind fun v3 =>
 (bif v3 then
 (m_impl_SameReference fuel x1 x2 x4).bind fun v5 =>
 some (([] : List Hit), v5)
 else
 (m_impl_copyForm fuel x2).bind fun v6 =>
 (m_impl_copyForm fuel x4).bind fun v7 =>
 some ([(Hit.mk v6 0 v7 ([] : List Hit))], true)))
 else
 (bif (decide (x2.kind = 2)) then
 (m_impl_FormSame fuel x2 x4).bind fun v9 =>
 some (([] : List Hit), v9)
 else
 (bif (decide (x4.kind ≠ 3)) then
 some (([] : List Hit), false)
 else
 (m_impl_dotsAt fuel x2.kids).bind fun v11 =>
 (bif (decide (v11 < 0)) then
 (bif (decide ((x2.kids.length : Int) ≠ (x4.kids.length : Int))) then
 some (([] : List Hit), false)
 else
 m_impl_match_l2 fuel x1 x2 x3 x4 0 ([] : List Hit))
 else
 (bif (decide ((w64 ((x4.kids.length : Int) - (w64 ((x2.kids.length : Int) - 2)))) < 0)) then
 some (([] : List Hit), false)
 else
 m_impl_match_l4 fuel x1 x2 x3 x4 v11 0 ([] : List Hit))))))
def m_impl_match_l2 (fuel : Nat) (x1 : (List Bind)) (x2 : Form) (x3 : (List Form)) (x4 : Form) (g14 : Int) (g15 : (List Hit)) : Option ((List Hit) × Bool) :=
 match fuel with
 | 0 => none
 | fuel + 1 =>
 (bif (decide (g14 < (x2.kids.length : Int))) then
 (idx x2.kids g14).bind fun v19 =>
 (idx x4.kids g14).bind fun v20 =>
 (m_impl_match_1 fuel v19 v20 x1 x3 g15).bind fun v21 =>
 (bif (!v21.1) then
 some (([] : List Hit), false)
 else
 m_impl_match_l2 fuel x1 x2 x3 x4 (g14 + 1) v21.2)
 else
 m_impl_match_j1 fuel  g15)
def m_impl_match_j1 (fuel : Nat) (g23 : (List Hit)) : Option ((List Hit) × Bool) :=
 match fuel with
 | 0 => none
 | fuel + 1 =>
 some (g23, true)
def m_impl_match_l4 (fuel : Nat) (x1 : (List Bind)) (x2 : Form) (x3 : (List Form)) (x4 : Form) (v11 : Int) (g26 : Int) (g27 : (List Hit)) : Option ((List Hit) × Bool) :=
 match fuel with
 | 0 => none
 | fuel + 1 =>
 (bif (decide (g26 < (w64 (v11 - 1)))) then
 (idx x2.kids g26).bind fun v30 =>
 (idx x4.kids g26).bind fun v31 =>
 (m_impl_match_1 fuel v30 v31 x1 x3 g27).bind fun v32 =>
 (bif (!v32.1) then
 some (([] : List Hit), false)
 else
 m_impl_match_l4 fuel x1 x2 x3 x4 v11 (w64 (g26 + 1)) v32.2)
 else
 m_impl_match_j3 fuel x1 x2 x3 x4 v11 g27)
def m_impl_match_l6 (fuel : Nat) (x1 : (List Bind)) (x2 : Form) (x3 : (List Form)) (x4 : Form) (v11 : Int) (g34 : (List Hit)) (v37 : (List Form) × (List Int)) (g38 : (List Hit)) (g39 : Int) : Option ((List Hit) × Bool) :=
 match fuel with
 | 0 => none
 | fuel + 1 =>
 (bif (decide (g39 < (v37.1.length : Int))) then
 (idx v37.1 g39).bind fun v43 =>
 (m_impl_copyForm fuel v43).bind fun v44 =>
 (idx v37.2 g39).bind fun v45 =>
 chk (decide ((g38.length + [(Hit.mk v44 (w64 (v45 + 1)) (Form.mk 0 (⟨#[]⟩ : ByteArray) 0 ([] : List Int) ([] : List Form)) ([] : List Hit))].length) * 192 ≤ 140737488355328)) <|
 m_impl_match_l6 fuel x1 x2 x3 x4 v11 g34 v37 (g38 ++ [(Hit.mk v44 (w64 (v45 + 1)) (Form.mk 0 (⟨#[]⟩ : ByteArray) 0 ([] : List Int) ([] : List Form)) ([] : List Hit))]) (g39 + 1)
 else
 m_impl_match_j5 fuel x1 x2 x3 x4 v11 g34 g38)
def m_impl_match_l9 (fuel : Nat) (x1 : (List Bind)) (x2 : Form) (x3 : (List Form)) (x4 : Form) (v11 : Int) (g34 : (List Hit)) (v49 : (List Form)) (g50 : Int) (g51 : (List Hit)) (v57 : (List Hit) × Bool) (g59 : Int) (g60 : (List Hit)) : Option ((List Hit) × Bool) :=
 match fuel with
 | 0 => none
 | fuel + 1 =>
 (bif (decide (g59 < (g51.length : Int))) then
 (idx g60 g59).bind fun v63 =>
 (idx v57.1 g59).bind fun v64 =>
 chk (decide ((v63.many.length + [(Hit.mk (Form.mk 0 (⟨#[]⟩ : ByteArray) 0 ([] : List Int) ([] : List Form)) 0 (Form.mk 0 (⟨#[]⟩ : ByteArray) 0 ([] : List Int) ([] : List Form)) ([] : List Hit))].length) * 192 ≤ 140737488355328)) <|
 (idx (v63.many ++ [(Hit.mk (Form.mk 0 (⟨#[]⟩ : ByteArray) 0 ([] : List Int) ([] : List Form)) 0 (Form.mk 0 (⟨#[]⟩ : ByteArray) 0 ([] : List Int) ([] : List Form)) ([] : List Hit))]) (v63.many.length : Int)).bind fun v66 =>
 (idx g60 g59).bind fun v67 =>
 m_impl_match_l9 fuel x1 x2 x3 x4 v11 g34 v49 g50 g51 v57 (w64 (g59 + 1)) (g60.set g59.toNat (Hit.mk v63.name v63.depth v63.one ((v63.many ++ [(Hit.mk (Form.mk 0 (⟨#[]⟩ : ByteArray) 0 ([] : List Int) ([] : List Form)) 0 (Form.mk 0 (⟨#[]⟩ : ByteArray) 0 ([] : List Int) ([] : List Form)) ([] : List Hit))]).set (v63.many.length : Int).toNat v64)))
 else
 m_impl_match_l8 fuel x1 x2 x3 x4 v11 g34 v49 (w64 (g50 + 1)) g60)
def m_impl_match_l8 (fuel : Nat) (x1 : (List Bind)) (x2 : Form) (x3 : (List Form)) (x4 : Form) (v11 : Int) (g34 : (List Hit)) (v49 : (List Form)) (g50 : Int) (g51 : (List Hit)) : Option ((List Hit) × Bool) :=
 match fuel with
 | 0 => none
 | fuel + 1 =>
 (bif (decide (g50 < (v49.length : Int))) then
 (idx v49 g50).bind fun v55 =>
 (idx x2.kids (w64 (v11 - 1))).bind fun v56 =>
 (m_impl_match fuel x1 v56 x3 v55).bind fun v57 =>
 (bif (!v57.2) then
 some (([] : List Hit), false)
 else
 m_impl_match_l9 fuel x1 x2 x3 x4 v11 g34 v49 g50 g51 v57 0 g51)
 else
 m_impl_match_j7 fuel x1 x2 x3 x4 v11 g34 g51)
def m_impl_match_l10 (fuel : Nat) (x1 : (List Bind)) (x2 : Form) (x3 : (List Form)) (x4 : Form) (v11 : Int) (g71 : Int) (g72 : (List Hit)) : Option ((List Hit) × Bool) :=
 match fuel with
 | 0 => none
 | fuel + 1 =>
 (bif (decide (g71 < (x2.kids.length : Int))) then
 (idx x2.kids g71).bind fun v76 =>
 (idx x4.kids (w64 ((w64 ((w64 ((w64 ((w64 (v11 - 1)) + (w64 ((x4.kids.length : Int) - (w64 ((x2.kids.length : Int) - 2)))))) + g71)) - v11)) - 1))).bind fun v77 =>
 (m_impl_match_1 fuel v76 v77 x1 x3 g72).bind fun v78 =>
 (bif (!v78.1) then
 some (([] : List Hit), false)
 else
 m_impl_match_l10 fuel x1 x2 x3 x4 v11 (g71 + 1) v78.2)
 else
 some (g72, true))
def m_impl_match_j7 (fuel : Nat) (x1 : (List Bind)) (x2 : Form) (x3 : (List Form)) (x4 : Form) (v11 : Int) (g34 : (List Hit)) (g68 : (List Hit)) : Option ((List Hit) × Bool) :=
 match fuel with
 | 0 => none
 | fuel + 1 =>
 chk (decide ((g34.length + g68.length) * 192 ≤ 140737488355328)) <|
 m_impl_match_l10 fuel x1 x2 x3 x4 v11 (w64 (v11 + 1)) (g34 ++ g68)
def m_impl_match_j5 (fuel : Nat) (x1 : (List Bind)) (x2 : Form) (x3 : (List Form)) (x4 : Form) (v11 : Int) (g34 : (List Hit)) (g47 : (List Hit)) : Option ((List Hit) × Bool) :=
 match fuel with
 | 0 => none
 | fuel + 1 =>
 (sub x4.kids (w64 (v11 - 1)) (w64 ((w64 (v11 - 1)) + (w64 ((x4.kids.length : Int) - (w64 ((x2.kids.length : Int) - 2))))))).bind fun v49 =>
 m_impl_match_l8 fuel x1 x2 x3 x4 v11 g34 v49 0 g47
def m_impl_match_j3 (fuel : Nat) (x1 : (List Bind)) (x2 : Form) (x3 : (List Form)) (x4 : Form) (v11 : Int) (g34 : (List Hit)) : Option ((List Hit) × Bool) :=
 match fuel with
 | 0 => none
 | fuel + 1 =>
 (idx x2.kids (w64 (v11 - 1))).bind fun v36 =>
 (m_impl_varsOf fuel v36 x3).bind fun v37 =>
 m_impl_match_l6 fuel x1 x2 x3 x4 v11 g34 v37 ([] : List Hit) 0
def m_impl_match_1 (fuel : Nat) (x1 : Form) (x2 : Form) (o1 : (List Bind)) (o2 : (List Form)) (o3 : (List Hit)) : Option (Bool × (List Hit)) :=
 match fuel with
 | 0 => none
 | fuel + 1 =>
 (m_impl_match fuel o1 x1 o2 x2).bind fun v1 =>
 chk (decide ((o3.length + v1.1.length) * 192 ≤ 140737488355328)) <|
 some (v1.2, (o3 ++ v1.1))
end
def m_laws_markIntS_l1 (fuel : Nat) (g1 : Int) (g2 : Int) (g3 : (List Int)) : Option (Int × (List Int)) :=
 match fuel with
 | 0 => none
 | fuel + 1 =>
 (bif (decide (g2 < (g3.length : Int))) then
 (idx g3 g2).bind fun v7 =>
 m_laws_markIntS_l1 fuel  (w64 (g1 + 1)) (g2 + 1) (g3.set g2.toNat g1)
 else
 some (g1, g3))
def m_laws_markIntS (fuel : Nat) (x1 : (List Int)) (x2 : Int) : Option (Int × (List Int)) :=
 m_laws_markIntS_l1 fuel  x2 0 x1
def m_laws_markText_l1 (fuel : Nat) (g2 : Int) (g3 : ByteArray) : Option ByteArray :=
 match fuel with
 | 0 => none
 | fuel + 1 =>
 (bif (decide (0 < g2)) then
 (bcat (strOf [(w8 (w64 (48 + (g2.tmod 10))))]) g3).bind fun v6 =>
 m_laws_markText_l1 fuel  (w64 (g2.tdiv 10)) v6
 else
 (bcat (⟨#[109]⟩ : ByteArray) g3).bind fun v7 =>
 some v7)
def m_laws_markText (fuel : Nat) (x1 : Int) : Option ByteArray :=
 (bif (decide (x1 ≤ 0)) then
 some (⟨#[109, 48]⟩ : ByteArray)
 else
 m_laws_markText_l1 fuel  x1 (⟨#[]⟩ : ByteArray))
mutual
def m_laws_markFormS (fuel : Nat) (x1 : (List Form)) (x2 : Int) : Option (Int × (List Form)) :=
 match fuel with
 | 0 => none
 | fuel + 1 =>
 m_laws_markFormS_l1 fuel  x2 0 x1
def m_laws_markFormS_l1 (fuel : Nat) (g1 : Int) (g2 : Int) (g3 : (List Form)) : Option (Int × (List Form)) :=
 match fuel with
 | 0 => none
 | fuel + 1 =>
 (bif (decide (g2 < (g3.length : Int))) then
 (idx g3 g2).bind fun v6 =>
 (m_laws_markText fuel (w64 (g1 + 1))).bind fun v7 =>
 (idx (g3.set g2.toNat (Form.mk g1 v6.name v6.n v6.scopes v6.kids)) g2).bind fun v8 =>
 (idx ((g3.set g2.toNat (Form.mk g1 v6.name v6.n v6.scopes v6.kids)).set g2.toNat (Form.mk v8.kind v7 v8.n v8.scopes v8.kids)) g2).bind fun v9 =>
 (idx (((g3.set g2.toNat (Form.mk g1 v6.name v6.n v6.scopes v6.kids)).set g2.toNat (Form.mk v8.kind v7 v8.n v8.scopes v8.kids)).set g2.toNat (Form.mk v9.kind v9.name (w64 ((w64 (g1 + 1)) + 1)) v9.scopes v9.kids)) g2).bind fun v10 =>
 (m_laws_markIntS fuel v10.scopes (w64 ((w64 ((w64 (g1 + 1)) + 1)) + 1))).bind fun v11 =>
 (idx ((((g3.set g2.toNat (Form.mk g1 v6.name v6.n v6.scopes v6.kids)).set g2.toNat (Form.mk v8.kind v7 v8.n v8.scopes v8.kids)).set g2.toNat (Form.mk v9.kind v9.name (w64 ((w64 (g1 + 1)) + 1)) v9.scopes v9.kids)).set g2.toNat (Form.mk v10.kind v10.name v10.n v11.2 v10.kids)) g2).bind fun v12 =>
 (m_laws_markFormS fuel v12.kids v11.1).bind fun v13 =>
 m_laws_markFormS_l1 fuel  v13.1 (w64 (g2 + 1)) (((((g3.set g2.toNat (Form.mk g1 v6.name v6.n v6.scopes v6.kids)).set g2.toNat (Form.mk v8.kind v7 v8.n v8.scopes v8.kids)).set g2.toNat (Form.mk v9.kind v9.name (w64 ((w64 (g1 + 1)) + 1)) v9.scopes v9.kids)).set g2.toNat (Form.mk v10.kind v10.name v10.n v11.2 v10.kids)).set g2.toNat (Form.mk v12.kind v12.name v12.n v12.scopes v13.2))
 else
 some (g1, g3))
end
def m_laws_markForm (fuel : Nat) (x1 : Form) (x2 : Int) : Option (Int × (List Int) × (List Form)) :=
 (m_laws_markIntS fuel x1.scopes x2).bind fun v1 =>
 (m_laws_markFormS fuel x1.kids v1.1).bind fun v2 =>
 some (v2.1, v1.2, v2.2)
def m_laws_heldIntS_l1 (fuel : Nat) (x1 : (List Int)) (g1 : Int) (g2 : Int) : Option Int :=
 match fuel with
 | 0 => none
 | fuel + 1 =>
 (bif (decide (g2 < (x1.length : Int))) then
 (idx x1 g2).bind fun v6 =>
 (bif (decide (v6 ≠ g1)) then
 some (-1)
 else
 m_laws_heldIntS_l1 fuel x1 (w64 (g1 + 1)) (g2 + 1))
 else
 some g1)
def m_laws_heldIntS (fuel : Nat) (x1 : (List Int)) (x2 : Int) : Option Int :=
 m_laws_heldIntS_l1 fuel x1 x2 0
mutual
def m_laws_heldFormS (fuel : Nat) (x1 : (List Form)) (x2 : Int) : Option Int :=
 match fuel with
 | 0 => none
 | fuel + 1 =>
 m_laws_heldFormS_l1 fuel x1 x2 0
def m_laws_heldFormS_l1 (fuel : Nat) (x1 : (List Form)) (g1 : Int) (g2 : Int) : Option Int :=
 match fuel with
 | 0 => none
 | fuel + 1 =>
 (bif (decide (g2 < (x1.length : Int))) then
 (idx x1 g2).bind fun v6 =>
 (bif (decide (v6.kind ≠ g1)) then
 some (-1)
 else
 (idx x1 g2).bind fun v8 =>
 (m_laws_markText fuel (w64 (g1 + 1))).bind fun v9 =>
 (bif (decide (v8.name ≠ v9)) then
 some (-1)
 else
 (idx x1 g2).bind fun v11 =>
 (bif (decide (v11.n ≠ (w64 ((w64 (g1 + 1)) + 1)))) then
 some (-1)
 else
 (idx x1 g2).bind fun v13 =>
 (m_laws_heldIntS fuel v13.scopes (w64 ((w64 ((w64 (g1 + 1)) + 1)) + 1))).bind fun v14 =>
 (bif (decide (v14 < 0)) then
 some (-1)
 else
 (idx x1 g2).bind fun v16 =>
 (m_laws_heldFormS fuel v16.kids v14).bind fun v17 =>
 (bif (decide (v17 < 0)) then
 some (-1)
 else
 m_laws_heldFormS_l1 fuel x1 v17 (g2 + 1))))))
 else
 some g1)
end
def m_laws_heldForm (fuel : Nat) (x1 : Form) (x2 : Int) : Option Int :=
 (m_laws_heldIntS fuel x1.scopes x2).bind fun v1 =>
 (bif (decide (v1 < 0)) then
 some (-1)
 else
 (m_laws_heldFormS fuel x1.kids v1).bind fun v3 =>
 (bif (decide (v3 < 0)) then
 some (-1)
 else
 some v3))
def m_laws_FnExactPatternVars_j1 (fuel : Nat) (x1 : Form) (x2 : (List Form)) (v7 : (List Form)) (v10 : (List Form)) (g23 : Bool) : Option Bool :=
 match fuel with
 | 0 => none
 | fuel + 1 =>
 (bif g23 then
 some false
 else
 (m_laws_markFormS fuel v10 1).bind fun v26 =>
 (m_laws_heldFormS fuel v26.2 1).bind fun v27 =>
 (bif (decide (v27 < 0)) then
 some false
 else
 (bif (decide (v27 ≠ v26.1)) then
 some false
 else
 (m_laws_toForm fuel x1).bind fun v30 =>
 (m_laws_toFormS fuel x2).bind fun v31 =>
 (m_impl_PatternVars fuel v30 v31).bind fun v32 =>
 (m_laws_eqFormS fuel v32 v7).bind fun v33 =>
 (bif (!v33) then
 some false
 else
 (m_laws_heldFormS fuel v26.2 1).bind fun v35 =>
 (bif (decide (v35 < 0)) then
 some false
 else
 (bif (decide (v35 ≠ v26.1)) then
 some false
 else
 some true))))))
def m_laws_FnExactPatternVars (fuel : Nat) (x1 : Form) (x2 : (List Form)) : Option Bool :=
 (m_laws_szForm fuel x1 1048576).bind fun v1 =>
 (bif (decide (v1 < 0)) then
 some true
 else
 (m_laws_szFormS fuel x2 v1).bind fun v3 =>
 (bif (decide (v3 < 0)) then
 some true
 else
 (m_laws_toForm fuel x1).bind fun v5 =>
 (m_laws_toFormS fuel x2).bind fun v6 =>
 (m_spec_PatternVars fuel v5 v6).bind fun v7 =>
 (m_laws_toForm fuel x1).bind fun v8 =>
 (m_laws_toFormS fuel x2).bind fun v9 =>
 (m_impl_PatternVars fuel v8 v9).bind fun v10 =>
 (m_laws_eqFormS fuel v10 v7).bind fun v11 =>
 (bif (!v11) then
 some false
 else
 (m_laws_toForm fuel x1).bind fun v13 =>
 (m_laws_eqForm fuel v8 v13).bind fun v14 =>
 (bif (!v14) then
 some false
 else
 (m_laws_toFormS fuel x2).bind fun v16 =>
 (m_laws_eqFormS fuel v9 v16).bind fun v17 =>
 (bif (!v17) then
 some false
 else
 (m_laws_markForm fuel v8 1).bind fun v19 =>
 (m_laws_markFormS fuel v9 v19.1).bind fun v20 =>
 (bif (decide (v20.1 < 0)) then
 m_laws_FnExactPatternVars_j1 fuel x1 x2 v7 v10 true
 else
 (m_laws_eqFormS fuel v10 v7).bind fun v22 =>
 m_laws_FnExactPatternVars_j1 fuel x1 x2 v7 v10 (!v22)))))))
end Go.Abs
