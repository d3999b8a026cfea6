/- A part of the proof: what the functions that the law calls answer, as pure values. -/
import Derived.Test.YtjjjnhpghhamkaaGreatK47fea1a30345
import Derived.Test.YtjjjnhpghhamkaaGreatK6a36b954c5f2
import Derived.Test.YtjjjnhpghhamkaaGreatKd12cb08badc5
set_option linter.unusedSimpArgs false
set_option linter.unusedVariables false
set_option maxHeartbeats 4000000
namespace Go.Abs
def m_laws_FnExactFirstRule (fuel : Nat) (x1 : (List Bind)) (x2 : (List Rule)) (x3 : (List Form)) (x4 : Form) : Option Bool :=
 (m_laws_szBindS fuel x1 1048576).bind fun v1 =>
 (bif (decide (v1 < 0)) then
 some true
 else
 (m_laws_szRuleS fuel x2 v1).bind fun v3 =>
 (bif (decide (v3 < 0)) then
 some true
 else
 (m_laws_szFormS fuel x3 v3).bind fun v5 =>
 (bif (decide (v5 < 0)) then
 some true
 else
 (m_laws_szForm fuel x4 v5).bind fun v7 =>
 (bif (decide (v7 < 0)) then
 some true
 else
 (m_laws_toBindS fuel x1).bind fun v9 =>
 (m_laws_toRuleS fuel x2).bind fun v10 =>
 (m_laws_toFormS fuel x3).bind fun v11 =>
 (m_laws_toForm fuel x4).bind fun v12 =>
 (m_spec_FirstRule fuel v9 v10 v11 v12).bind fun v13 =>
 (m_laws_toBindS fuel x1).bind fun v14 =>
 (m_laws_toRuleS fuel x2).bind fun v15 =>
 (m_laws_toFormS fuel x3).bind fun v16 =>
 (m_laws_toForm fuel x4).bind fun v17 =>
 (m_impl_FirstRule fuel v14 v15 v16 v17).bind fun v18 =>
 (bif (decide (v18.1 ≠ v13.1)) then
 m_laws_FnExactFirstRule_j1 fuel x1 x2 x3 x4 v14 v15 v16 v17 true
 else
 m_laws_FnExactFirstRule_j1 fuel x1 x2 x3 x4 v14 v15 v16 v17 (decide (v18.2 ≠ v13.2)))))))
end Go.Abs
