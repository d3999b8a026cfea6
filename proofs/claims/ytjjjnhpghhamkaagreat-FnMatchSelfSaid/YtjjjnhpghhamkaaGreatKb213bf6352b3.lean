/- A part of the proof: what the functions that the law calls answer, as pure values. -/
import Derived.Test.YtjjjnhpghhamkaaGreatKbd3e35bfabae
import Derived.Test.YtjjjnhpghhamkaaGreatKcbfe00d1dfad
import Derived.Test.YtjjjnhpghhamkaaGreatKf1fd350dc8fb
set_option linter.unusedSimpArgs false
set_option linter.unusedVariables false
set_option maxHeartbeats 4000000
namespace Go.Abs
def m_impl_MatchPattern_j1 (fuel : Nat) (x1 : (List Bind)) (x2 : Form) (x3 : (List Form)) (x4 : Form) (g6 : Bool) : Option ((List Hit) × Bool) :=
 match fuel with
 | 0 => none
 | fuel + 1 =>
 (bif g6 then
 some (([] : List Hit), false)
 else
 (m_impl_match fuel x1 x2 x3 x4).bind fun v9 =>
 (bif (!v9.2) then
 some (([] : List Hit), false)
 else
 some (v9.1, true)))
def m_impl_MatchPattern (fuel : Nat) (x1 : (List Bind)) (x2 : Form) (x3 : (List Form)) (x4 : Form) : Option ((List Hit) × Bool) :=
 (m_impl_BindsValid fuel x1).bind fun v1 =>
 (bif (!v1) then
 m_impl_MatchPattern_j1 fuel x1 x2 x3 x4 true
 else
 (m_impl_PatternValid fuel x2 x3).bind fun v3 =>
 (bif (!v3) then
 m_impl_MatchPattern_j1 fuel x1 x2 x3 x4 true
 else
 (m_impl_FormValid fuel x4).bind fun v5 =>
 m_impl_MatchPattern_j1 fuel x1 x2 x3 x4 (!v5)))
mutual
def m_laws_FnMatchSelf_l2 (fuel : Nat) (v3 : (List Bind) × Form × (List Form) × Form) (v16 : (List Hit) × Bool) (g17 : Int) : Option Bool :=
 match fuel with
 | 0 => none
 | fuel + 1 =>
 (bif (decide (g17 < (v16.1.length : Int))) then
 (idx v16.1 g17).bind fun v21 =>
 (idx v16.1 g17).bind fun v22 =>
 (m_impl_FormSame fuel v21.one v22.name).bind fun v23 =>
 (bif (!v23) then
 some false
 else
 m_laws_FnMatchSelf_l2 fuel v3 v16 (g17 + 1))
 else
 (bif v16.2 then
 (m_impl_PatternVars fuel v3.2.1 ([] : List Form)).bind fun v26 =>
 some (decide ((v16.1.length : Int) = (v26.length : Int)))
 else
 some false))
def m_laws_FnMatchSelf_j1 (fuel : Nat) (v3 : (List Bind) × Form × (List Form) × Form) (v4 : (List Hit) × Bool) (v5 : (List Hit) × Bool) (g13 : Bool) : Option Bool :=
 match fuel with
 | 0 => none
 | fuel + 1 =>
 (bif g13 then
 some (decide (v4.2 = v5.2))
 else
 (m_impl_MatchPattern fuel v3.1 v3.2.1 ([] : List Form) v3.2.1).bind fun v16 =>
 m_laws_FnMatchSelf_l2 fuel v3 v16 0)
end
def m_laws_FnMatchSelf (fuel : Nat) (x1 : (List Int)) : Option Bool :=
 (bif (decide (1048576 < (x1.length : Int))) then
 some true
 else
 (m_spec_DrawMatchPattern fuel x1).bind fun v3 =>
 (m_impl_MatchPattern fuel v3.1 v3.2.1 v3.2.2.1 v3.2.2.2).bind fun v4 =>
 (m_spec_MatchPattern fuel v3.1 v3.2.1 v3.2.2.1 v3.2.2.2).bind fun v5 =>
 (bif (decide (v4.2 ≠ v5.2)) then
 m_laws_FnMatchSelf_j1 fuel v3 v4 v5 true
 else
 (m_impl_PatternValid fuel v3.2.1 ([] : List Form)).bind fun v7 =>
 (bif (!v7) then
 m_laws_FnMatchSelf_j1 fuel v3 v4 v5 true
 else
 (m_impl_BindsValid fuel v3.1).bind fun v9 =>
 (bif (!v9) then
 m_laws_FnMatchSelf_j1 fuel v3 v4 v5 true
 else
 (m_impl_NamesOf fuel v3.2.1).bind fun v11 =>
 (m_laws_mxHasText fuel v11 (⟨#[46, 46, 46]⟩ : ByteArray)).bind fun v12 =>
 m_laws_FnMatchSelf_j1 fuel v3 v4 v5 v12))))
end Go.Abs
