/- A part of the proof: what the functions that the law calls answer, as pure values. -/
import Derived.Test.YtpdacpnncmemgaaK0b7006a29a35
import Derived.Test.YtpdacpnncmemgaaKb6a9392c4a86
set_option linter.unusedSimpArgs false
set_option linter.unusedVariables false
set_option maxHeartbeats 4000000
namespace Go.Abs
def m_impl_CoreAlike (fuel : Nat) (x1 : Core) (x2 : Core) : Option Bool :=
 (m_impl_CoreValid fuel x1).bind fun v1 =>
 (bif v1 then
 (m_impl_CoreValid fuel x2).bind fun v3 =>
 (bif v3 then
 (m_impl_alike_n fuel x1 x2).bind fun v5 =>
 some v5
 else
 some false)
 else
 some false)
def m_spec_l6Last_l1 (fuel : Nat) (x1 : (List Int)) (x2 : Int) (g1 : Int) : Option Int :=
 match fuel with
 | 0 => none
 | fuel + 1 =>
 (bif (decide (0 ≤ g1)) then
 (idx x1 g1).bind fun v4 =>
 (bif (decide (v4 = x2)) then
 some (w64 ((w64 ((x1.length : Int) - 1)) - g1))
 else
 m_spec_l6Last_l1 fuel x1 x2 (w64 (g1 - 1)))
 else
 some (-1))
def m_spec_l6Last (fuel : Nat) (x1 : (List Int)) (x2 : Int) : Option Int :=
 m_spec_l6Last_l1 fuel x1 x2 (w64 ((x1.length : Int) - 1))
mutual
def m_spec_l6Alike (fuel : Nat) (x1 : Core) (x2 : Core) (x3 : (List Int)) (x4 : (List Int)) : Option Bool :=
 match fuel with
 | 0 => none
 | fuel + 1 =>
 (bif (decide (x1.kind ≠ x2.kind)) then
 m_spec_l6Alike_j1 fuel x1 x2 x3 x4 true
 else
 (bif (decide (x1.name ≠ x2.name)) then
 m_spec_l6Alike_j1 fuel x1 x2 x3 x4 true
 else
 (bif (decide (x1.n ≠ x2.n)) then
 m_spec_l6Alike_j1 fuel x1 x2 x3 x4 true
 else
 (bif (decide ((x1.ids.length : Int) ≠ (x2.ids.length : Int))) then
 m_spec_l6Alike_j1 fuel x1 x2 x3 x4 true
 else
 (m_spec_FormSame fuel x1.data x2.data).bind fun v5 =>
 (bif (!v5) then
 m_spec_l6Alike_j1 fuel x1 x2 x3 x4 true
 else
 m_spec_l6Alike_j1 fuel x1 x2 x3 x4 (decide ((x1.kids.length : Int) ≠ (x2.kids.length : Int))))))))
def m_spec_l6Alike_l3 (fuel : Nat) (x1 : Core) (x2 : Core) (g19 : Int) (g20 : (List Int)) (g21 : (List Int)) : Option Bool :=
 match fuel with
 | 0 => none
 | fuel + 1 =>
 (bif (decide (g19 < (x1.kids.length : Int))) then
 (idx x1.kids g19).bind fun v25 =>
 (idx x2.kids g19).bind fun v26 =>
 (m_spec_l6Alike fuel v25 v26 g20 g21).bind fun v27 =>
 (bif (!v27) then
 some false
 else
 m_spec_l6Alike_l3 fuel x1 x2 (g19 + 1) g20 g21)
 else
 some true)
def m_spec_l6Alike_j2 (fuel : Nat) (x1 : Core) (x2 : Core) (x3 : (List Int)) (x4 : (List Int)) : Option Bool :=
 match fuel with
 | 0 => none
 | fuel + 1 =>
 chk (decide ((([] : List Int).length + x3.length) * 8 ≤ 140737488355328)) <|
 chk (decide (((([] : List Int) ++ x3).length + x1.ids.length) * 8 ≤ 140737488355328)) <|
 chk (decide ((([] : List Int).length + x4.length) * 8 ≤ 140737488355328)) <|
 chk (decide (((([] : List Int) ++ x4).length + x2.ids.length) * 8 ≤ 140737488355328)) <|
 m_spec_l6Alike_l3 fuel x1 x2 0 ((([] : List Int) ++ x3) ++ x1.ids) ((([] : List Int) ++ x4) ++ x2.ids)
def m_spec_l6Alike_j1 (fuel : Nat) (x1 : Core) (x2 : Core) (x3 : (List Int)) (x4 : (List Int)) (g7 : Bool) : Option Bool :=
 match fuel with
 | 0 => none
 | fuel + 1 =>
 (bif g7 then
 some false
 else
 (bif (decide (x1.kind = 1)) then
 (m_spec_l6Last fuel x3 x1.id).bind fun v11 =>
 (m_spec_l6Last fuel x4 x2.id).bind fun v12 =>
 (bif (decide (v11 ≠ v12)) then
 some false
 else
 m_spec_l6Alike_j2 fuel x1 x2 x3 x4 )
 else
 m_spec_l6Alike_j2 fuel x1 x2 x3 x4 ))
end
def m_spec_CoreAlike (fuel : Nat) (x1 : Core) (x2 : Core) : Option Bool :=
 (m_spec_CoreValid fuel x1).bind fun v1 =>
 (bif v1 then
 (m_spec_CoreValid fuel x2).bind fun v3 =>
 (bif v3 then
 (m_spec_l6Alike fuel x1 x2 ([] : List Int) ([] : List Int)).bind fun v5 =>
 some v5
 else
 some false)
 else
 some false)
def m_laws_FnExactCoreAlike (fuel : Nat) (x1 : Core) (x2 : Core) : Option Bool :=
 (m_laws_szCore fuel x1 1048576).bind fun v1 =>
 (bif (decide (v1 < 0)) then
 some true
 else
 (m_laws_szCore fuel x2 v1).bind fun v3 =>
 (bif (decide (v3 < 0)) then
 some true
 else
 (m_laws_toCore fuel x1).bind fun v5 =>
 (m_laws_toCore fuel x2).bind fun v6 =>
 (m_spec_CoreAlike fuel v5 v6).bind fun v7 =>
 (m_laws_toCore fuel x1).bind fun v8 =>
 (m_laws_toCore fuel x2).bind fun v9 =>
 (m_impl_CoreAlike fuel v8 v9).bind fun v10 =>
 (bif (decide (v10 ≠ v7)) then
 some false
 else
 (m_laws_toCore fuel x1).bind fun v12 =>
 (m_laws_eqCore fuel v8 v12).bind fun v13 =>
 (bif (!v13) then
 some false
 else
 (m_laws_toCore fuel x2).bind fun v15 =>
 (m_laws_eqCore fuel v9 v15).bind fun v16 =>
 (bif (!v16) then
 some false
 else
 some true)))))
end Go.Abs
