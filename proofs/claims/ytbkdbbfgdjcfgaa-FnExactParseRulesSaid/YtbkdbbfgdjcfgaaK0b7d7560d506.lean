/- A part of the proof: what the functions that the law calls answer, as pure values. -/
import Derived.Test.YtbkdbbfgdjcfgaaK4fd39b116326
import Derived.Test.YtbkdbbfgdjcfgaaK96cd8f24d73b
set_option linter.unusedSimpArgs false
set_option linter.unusedVariables false
set_option maxHeartbeats 4000000
namespace Go.Abs
def m_spec_l1Skip_l1 (fuel : Nat) (x1 : ByteArray) (g1 : Int) : Option Int :=
 match fuel with
 | 0 => none
 | fuel + 1 =>
 (bif (decide (g1 < (x1.size : Int))) then
 (bidx x1 g1).bind fun v4 =>
 (bif (decide (v4 = 32)) then
 m_spec_l1Skip_l1 fuel x1 (w64 (g1 + 1))
 else
 some g1)
 else
 some g1)
def m_spec_l1Skip (fuel : Nat) (x1 : ByteArray) (x2 : Int) : Option Int :=
 m_spec_l1Skip_l1 fuel x1 x2
def m_spec_l1Word_l1 (fuel : Nat) (x1 : ByteArray) (g1 : Int) : Option Int :=
 match fuel with
 | 0 => none
 | fuel + 1 =>
 (bif (decide (g1 < (x1.size : Int))) then
 (bidx x1 g1).bind fun v4 =>
 (bif (decide (v4 ≠ 32)) then
 (bidx x1 g1).bind fun v6 =>
 (bif (decide (v6 ≠ 40)) then
 (bidx x1 g1).bind fun v8 =>
 (bif (decide (v8 ≠ 41)) then
 (bidx x1 g1).bind fun v10 =>
 (bif (decide (v10 ≠ 123)) then
 m_spec_l1Word_l1 fuel x1 (w64 (g1 + 1))
 else
 some g1)
 else
 some g1)
 else
 some g1)
 else
 some g1)
 else
 some g1)
def m_spec_l1Word (fuel : Nat) (x1 : ByteArray) (x2 : Int) : Option Int :=
 m_spec_l1Word_l1 fuel x1 x2
mutual
def m_spec_l15Num_j5 (fuel : Nat) (g3 : Bool) (g7 : ByteArray) (g16 : Int) (g17 : Int) (g23 : Bool) : Option (Int × Bool) :=
 match fuel with
 | 0 => none
 | fuel + 1 =>
 (bif g23 then
 some (0, false)
 else
 (bidx g7 g17).bind fun v26 =>
 m_spec_l15Num_l4 fuel g3 g7 (w64 ((w64 (g16 * 10)) + (w64 (w8 (v26 - 48))))) (w64 (g17 + 1)))
def m_spec_l15Num_l4 (fuel : Nat) (g3 : Bool) (g7 : ByteArray) (g16 : Int) (g17 : Int) : Option (Int × Bool) :=
 match fuel with
 | 0 => none
 | fuel + 1 =>
 (bif (decide (g17 < (g7.size : Int))) then
 (bidx g7 g17).bind fun v20 =>
 (bif (decide (v20 < 48)) then
 m_spec_l15Num_j5 fuel g3 g7 g16 g17 true
 else
 (bidx g7 g17).bind fun v22 =>
 m_spec_l15Num_j5 fuel g3 g7 g16 g17 (decide (57 < v22)))
 else
 (bif g3 then
 some ((w64 (0 - g16)), true)
 else
 some (g16, true)))
def m_spec_l15Num_j3 (fuel : Nat) (g3 : Bool) (g7 : ByteArray) : Option (Int × Bool) :=
 match fuel with
 | 0 => none
 | fuel + 1 =>
 m_spec_l15Num_l4 fuel g3 g7 0 0
def m_spec_l15Num_j2 (fuel : Nat) (g3 : Bool) (g7 : ByteArray) : Option (Int × Bool) :=
 match fuel with
 | 0 => none
 | fuel + 1 =>
 (bif (decide ((g7.size : Int) = 0)) then
 some (0, false)
 else
 (bif (decide (17 < (g7.size : Int))) then
 some (0, false)
 else
 (bidx g7 0).bind fun v11 =>
 (bif (decide (v11 = 48)) then
 (bif (decide (1 < (g7.size : Int))) then
 some (0, false)
 else
 (bif g3 then
 some (0, false)
 else
 m_spec_l15Num_j3 fuel g3 g7 ))
 else
 m_spec_l15Num_j3 fuel g3 g7 )))
def m_spec_l15Num_j1 (fuel : Nat) (x1 : ByteArray) (g3 : Bool) : Option (Int × Bool) :=
 match fuel with
 | 0 => none
 | fuel + 1 =>
 (bif g3 then
 (bsub x1 1 (x1.size : Int)).bind fun v6 =>
 m_spec_l15Num_j2 fuel g3 v6
 else
 m_spec_l15Num_j2 fuel g3 x1)
end
def m_spec_l15Num (fuel : Nat) (x1 : ByteArray) : Option (Int × Bool) :=
 (bif (decide (0 < (x1.size : Int))) then
 (bidx x1 0).bind fun v2 =>
 m_spec_l15Num_j1 fuel x1 (decide (v2 = 45))
 else
 m_spec_l15Num_j1 fuel x1 false)
mutual
def m_spec_l15Cut_j2 (fuel : Nat) (x1 : ByteArray) (x2 : Int) (g1 : (List ByteArray)) (g2 : Int) (g3 : Int) (g8 : Bool) : Option (List ByteArray) :=
 match fuel with
 | 0 => none
 | fuel + 1 =>
 (bif g8 then
 (bsub x1 g2 g3).bind fun v11 =>
 chk (decide ((g1.length + [v11].length) * 16 ≤ 140737488355328)) <|
 m_spec_l15Cut_l1 fuel x1 x2 (g1 ++ [v11]) (w64 (g3 + 1)) (w64 (g3 + 1))
 else
 m_spec_l15Cut_l1 fuel x1 x2 g1 g2 (w64 (g3 + 1)))
def m_spec_l15Cut_l1 (fuel : Nat) (x1 : ByteArray) (x2 : Int) (g1 : (List ByteArray)) (g2 : Int) (g3 : Int) : Option (List ByteArray) :=
 match fuel with
 | 0 => none
 | fuel + 1 =>
 (bif (decide (g3 ≤ (x1.size : Int))) then
 (bif (decide (g3 = (x1.size : Int))) then
 m_spec_l15Cut_j2 fuel x1 x2 g1 g2 g3 true
 else
 (bidx x1 g3).bind fun v7 =>
 m_spec_l15Cut_j2 fuel x1 x2 g1 g2 g3 (decide (v7 = x2)))
 else
 some g1)
end
def m_spec_l15Cut (fuel : Nat) (x1 : ByteArray) (x2 : Int) : Option (List ByteArray) :=
 m_spec_l15Cut_l1 fuel x1 x2 ([] : List ByteArray) 0 0
mutual
def m_spec_l1Sets_l3 (fuel : Nat) (x1 : ByteArray) (x2 : Int) (g6 : Int) : Option ((List Int) × Int) :=
 match fuel with
 | 0 => none
 | fuel + 1 =>
 (bif (decide (g6 < (x1.size : Int))) then
 (bidx x1 g6).bind fun v9 =>
 (bif (decide (v9 ≠ 125)) then
 m_spec_l1Sets_l3 fuel x1 x2 (w64 (g6 + 1))
 else
 m_spec_l1Sets_j2 fuel x1 x2 g6)
 else
 m_spec_l1Sets_j2 fuel x1 x2 g6)
def m_spec_l1Sets_j5 (fuel : Nat) (g11 : Int) (v15 : (List ByteArray)) (g16 : (List Int)) (g17 : Int) (g20 : Bool) : Option ((List Int) × Int) :=
 match fuel with
 | 0 => none
 | fuel + 1 =>
 (bif g20 then
 (idx v15 g17).bind fun v23 =>
 (m_spec_l15Num fuel v23).bind fun v24 =>
 (bif (!v24.2) then
 some (g16, (-1))
 else
 chk (decide ((g16.length + [v24.1].length) * 8 ≤ 140737488355328)) <|
 m_spec_l1Sets_l4 fuel g11 v15 (g16 ++ [v24.1]) (w64 (g17 + 1)))
 else
 some (g16, (w64 (g11 + 1))))
def m_spec_l1Sets_l4 (fuel : Nat) (g11 : Int) (v15 : (List ByteArray)) (g16 : (List Int)) (g17 : Int) : Option ((List Int) × Int) :=
 match fuel with
 | 0 => none
 | fuel + 1 =>
 (bif (decide (g17 < (v15.length : Int))) then
 m_spec_l1Sets_j5 fuel g11 v15 g16 g17 (decide (g17 ≤ 24))
 else
 m_spec_l1Sets_j5 fuel g11 v15 g16 g17 false)
def m_spec_l1Sets_j2 (fuel : Nat) (x1 : ByteArray) (x2 : Int) (g11 : Int) : Option ((List Int) × Int) :=
 match fuel with
 | 0 => none
 | fuel + 1 =>
 (bif (decide (g11 = (x1.size : Int))) then
 some (([] : List Int), (-1))
 else
 (bsub x1 (w64 (x2 + 1)) g11).bind fun v14 =>
 (m_spec_l15Cut fuel v14 44).bind fun v15 =>
 m_spec_l1Sets_l4 fuel g11 v15 ([] : List Int) 0)
def m_spec_l1Sets_j1 (fuel : Nat) (x1 : ByteArray) (x2 : Int) (g3 : Bool) : Option ((List Int) × Int) :=
 match fuel with
 | 0 => none
 | fuel + 1 =>
 (bif g3 then
 some (([] : List Int), x2)
 else
 m_spec_l1Sets_l3 fuel x1 x2 x2)
end
def m_spec_l1Sets (fuel : Nat) (x1 : ByteArray) (x2 : Int) : Option ((List Int) × Int) :=
 (bif (decide ((x1.size : Int) ≤ x2)) then
 m_spec_l1Sets_j1 fuel x1 x2 true
 else
 (bidx x1 x2).bind fun v2 =>
 m_spec_l1Sets_j1 fuel x1 x2 (decide (v2 ≠ 123)))
def m_spec_l1Atom (fuel : Nat) (x1 : ByteArray) (x2 : Int) : Option (Form × Int) :=
 (m_spec_l1Word fuel x1 x2).bind fun v1 =>
 (bsub x1 x2 v1).bind fun v2 =>
 (m_spec_l15Num fuel v2).bind fun v3 =>
 (bif v3.2 then
 some ((Form.mk 2 (⟨#[]⟩ : ByteArray) v3.1 ([] : List Int) ([] : List Form)), v1)
 else
 (bif (decide (v2 = (⟨#[]⟩ : ByteArray))) then
 some ((Form.mk 0 (⟨#[]⟩ : ByteArray) 0 ([] : List Int) ([] : List Form)), (-1))
 else
 (m_spec_l1Sets fuel x1 v1).bind fun v6 =>
 some ((Form.mk 1 v2 0 v6.1 ([] : List Form)), v6.2)))
mutual
def m_spec_l1Read (fuel : Nat) (x1 : ByteArray) (x2 : Int) (x3 : Int) : Option (Form × Int) :=
 match fuel with
 | 0 => none
 | fuel + 1 =>
 (m_spec_l1Skip fuel x1 x2).bind fun v1 =>
 (bif (decide ((x1.size : Int) ≤ v1)) then
 m_spec_l1Read_j1 fuel x1 x3 v1 true
 else
 m_spec_l1Read_j1 fuel x1 x3 v1 (decide (x3 = 0)))
def m_spec_l1Read_j4 (fuel : Nat) (x1 : ByteArray) (x3 : Int) (g10 : Int) (g11 : (List Form)) (g16 : Bool) : Option (Form × Int) :=
 match fuel with
 | 0 => none
 | fuel + 1 =>
 (bif g16 then
 (m_spec_l1Read fuel x1 g10 (w64 (x3 - 1))).bind fun v19 =>
 (bif (decide (v19.2 < 0)) then
 some ((Form.mk 3 (⟨#[]⟩ : ByteArray) 0 ([] : List Int) g11), (-1))
 else
 chk (decide ((g11.length + [v19.1].length) * 80 ≤ 140737488355328)) <|
 (m_spec_l1Skip fuel x1 v19.2).bind fun v22 =>
 m_spec_l1Read_l3 fuel x1 x3 v22 (g11 ++ [v19.1]))
 else
 m_spec_l1Read_j2 fuel x1 g10 g11)
def m_spec_l1Read_l3 (fuel : Nat) (x1 : ByteArray) (x3 : Int) (g10 : Int) (g11 : (List Form)) : Option (Form × Int) :=
 match fuel with
 | 0 => none
 | fuel + 1 =>
 (bif (decide (g10 < (x1.size : Int))) then
 (bidx x1 g10).bind fun v14 =>
 (bif (decide (v14 ≠ 41)) then
 m_spec_l1Read_j4 fuel x1 x3 g10 g11 (decide ((g11.length : Int) < 400))
 else
 m_spec_l1Read_j4 fuel x1 x3 g10 g11 false)
 else
 m_spec_l1Read_j4 fuel x1 x3 g10 g11 false)
def m_spec_l1Read_j5 (fuel : Nat) (g23 : Int) (g24 : (List Form)) (g28 : Bool) : Option (Form × Int) :=
 match fuel with
 | 0 => none
 | fuel + 1 =>
 (bif g28 then
 some ((Form.mk 3 (⟨#[]⟩ : ByteArray) 0 ([] : List Int) g24), (-1))
 else
 some ((Form.mk 3 (⟨#[]⟩ : ByteArray) 0 ([] : List Int) g24), (w64 (g23 + 1))))
def m_spec_l1Read_j2 (fuel : Nat) (x1 : ByteArray) (g23 : Int) (g24 : (List Form)) : Option (Form × Int) :=
 match fuel with
 | 0 => none
 | fuel + 1 =>
 (bif (decide ((x1.size : Int) ≤ g23)) then
 m_spec_l1Read_j5 fuel g23 g24 true
 else
 (bidx x1 g23).bind fun v27 =>
 m_spec_l1Read_j5 fuel g23 g24 (decide (v27 ≠ 41)))
def m_spec_l1Read_j1 (fuel : Nat) (x1 : ByteArray) (x3 : Int) (v1 : Int) (g3 : Bool) : Option (Form × Int) :=
 match fuel with
 | 0 => none
 | fuel + 1 =>
 (bif g3 then
 some ((Form.mk 0 (⟨#[]⟩ : ByteArray) 0 ([] : List Int) ([] : List Form)), (-1))
 else
 (bidx x1 v1).bind fun v6 =>
 (bif (decide (v6 ≠ 40)) then
 (m_spec_l1Atom fuel x1 v1).bind fun v8 =>
 some (v8.1, v8.2)
 else
 (m_spec_l1Skip fuel x1 (w64 (v1 + 1))).bind fun v9 =>
 m_spec_l1Read_l3 fuel x1 x3 v9 ([] : List Form)))
end
def m_spec_ParseForm (fuel : Nat) (x1 : ByteArray) : Option (Form × Bool) :=
 (m_spec_l1Read fuel x1 0 40).bind fun v1 =>
 (bif (decide (v1.2 < 0)) then
 some ((Form.mk 0 (⟨#[]⟩ : ByteArray) 0 ([] : List Int) ([] : List Form)), false)
 else
 (m_spec_l1Skip fuel x1 v1.2).bind fun v3 =>
 (bif (decide (v3 ≠ (x1.size : Int))) then
 some ((Form.mk 0 (⟨#[]⟩ : ByteArray) 0 ([] : List Int) ([] : List Form)), false)
 else
 (m_spec_FormValid fuel v1.1).bind fun v5 =>
 (bif (!v5) then
 some ((Form.mk 0 (⟨#[]⟩ : ByteArray) 0 ([] : List Int) ([] : List Form)), false)
 else
 some (v1.1, true))))
def m_spec_l1Parse (fuel : Nat) (x1 : ByteArray) : Option Form :=
 (m_spec_ParseForm fuel x1).bind fun v1 =>
 some v1.1
mutual
def m_spec_l1Copy (fuel : Nat) (x1 : Form) : Option Form :=
 match fuel with
 | 0 => none
 | fuel + 1 =>
 chk (decide ((([] : List Int).length + x1.scopes.length) * 8 ≤ 140737488355328)) <|
 m_spec_l1Copy_l1 fuel x1 0 ([] : List Form)
def m_spec_l1Copy_l1 (fuel : Nat) (x1 : Form) (g2 : Int) (g3 : (List Form)) : Option Form :=
 match fuel with
 | 0 => none
 | fuel + 1 =>
 (bif (decide (g2 < (x1.kids.length : Int))) then
 (idx x1.kids g2).bind fun v7 =>
 (m_spec_l1Copy fuel v7).bind fun v8 =>
 chk (decide ((g3.length + [v8].length) * 80 ≤ 140737488355328)) <|
 m_spec_l1Copy_l1 fuel x1 (g2 + 1) (g3 ++ [v8])
 else
 some (Form.mk x1.kind x1.name x1.n (([] : List Int) ++ x1.scopes) g3))
end
def m_slices_Clone_int (fuel : Nat) (x1 : (List Int)) : Option (List Int) :=
 chk (decide ((([] : List Int).length + x1.length) * 8 ≤ 140737488355328)) <|
 some (([] : List Int) ++ x1)
mutual
def m_impl_copyForm (fuel : Nat) (x1 : Form) : Option Form :=
 match fuel with
 | 0 => none
 | fuel + 1 =>
 (m_slices_Clone_int fuel x1.scopes).bind fun v1 =>
 m_impl_copyForm_l1 fuel x1 v1 0 ([] : List Form)
def m_impl_copyForm_l1 (fuel : Nat) (x1 : Form) (v1 : (List Int)) (g2 : Int) (g3 : (List Form)) : Option Form :=
 match fuel with
 | 0 => none
 | fuel + 1 =>
 (bif (decide (g2 < (x1.kids.length : Int))) then
 (idx x1.kids g2).bind fun v7 =>
 (m_impl_copyForm fuel v7).bind fun v8 =>
 chk (decide ((g3.length + [v8].length) * 80 ≤ 140737488355328)) <|
 m_impl_copyForm_l1 fuel x1 v1 (g2 + 1) (g3 ++ [v8])
 else
 some (Form.mk x1.kind x1.name x1.n v1 g3))
end
mutual
def m_spec_l5Rules_j2 (fuel : Nat) (x1 : (List Rule)) (x2 : (List Form)) (g1 : Int) (g4 : Bool) : Option Bool :=
 match fuel with
 | 0 => none
 | fuel + 1 =>
 (bif g4 then
 (idx x1 g1).bind fun v7 =>
 (m_spec_l5Rule fuel v7 x2).bind fun v8 =>
 (bif (!v8) then
 some false
 else
 m_spec_l5Rules_l1 fuel x1 x2 (w64 (g1 + 1)))
 else
 (bif (decide ((x1.length : Int) < 10)) then
 (m_spec_l4Literals fuel x2).bind fun v11 =>
 some v11
 else
 some false))
def m_spec_l5Rules_l1 (fuel : Nat) (x1 : (List Rule)) (x2 : (List Form)) (g1 : Int) : Option Bool :=
 match fuel with
 | 0 => none
 | fuel + 1 =>
 (bif (decide (g1 < (x1.length : Int))) then
 m_spec_l5Rules_j2 fuel x1 x2 g1 (decide (g1 < 10))
 else
 m_spec_l5Rules_j2 fuel x1 x2 g1 false)
end
def m_spec_l5Rules (fuel : Nat) (x1 : (List Rule)) (x2 : (List Form)) : Option Bool :=
 m_spec_l5Rules_l1 fuel x1 x2 0
mutual
def m_spec_ParseRules_l3 (fuel : Nat) (x1 : Form) (g11 : (List Form)) (g12 : Int) : Option ((List Form) × (List Rule) × Bool) :=
 match fuel with
 | 0 => none
 | fuel + 1 =>
 (idx x1.kids 1).bind fun v14 =>
 (bif (decide (g12 < (v14.kids.length : Int))) then
 (idx x1.kids 1).bind fun v17 =>
 (idx v17.kids g12).bind fun v18 =>
 (m_spec_l1Copy fuel v18).bind fun v19 =>
 chk (decide ((g11.length + [v19].length) * 80 ≤ 140737488355328)) <|
 m_spec_ParseRules_l3 fuel x1 (g11 ++ [v19]) (g12 + 1)
 else
 m_spec_ParseRules_j2 fuel x1 g11)
def m_spec_ParseRules_j6 (fuel : Nat) (x1 : Form) (g21 : (List Form)) (g23 : (List Rule)) (g24 : Int) (g31 : Bool) : Option ((List Form) × (List Rule) × Bool) :=
 match fuel with
 | 0 => none
 | fuel + 1 =>
 (bif g31 then
 some (([] : List Form), ([] : List Rule), false)
 else
 (idx x1.kids g24).bind fun v34 =>
 (idx v34.kids 0).bind fun v35 =>
 (m_spec_l1Copy fuel v35).bind fun v36 =>
 (idx x1.kids g24).bind fun v37 =>
 (idx v37.kids 1).bind fun v38 =>
 (m_spec_l1Copy fuel v38).bind fun v39 =>
 chk (decide ((g23.length + [(Rule.mk v36 v39)].length) * 160 ≤ 140737488355328)) <|
 m_spec_ParseRules_l5 fuel x1 g21 (g23 ++ [(Rule.mk v36 v39)]) (g24 + 1))
def m_spec_ParseRules_l5 (fuel : Nat) (x1 : Form) (g21 : (List Form)) (g23 : (List Rule)) (g24 : Int) : Option ((List Form) × (List Rule) × Bool) :=
 match fuel with
 | 0 => none
 | fuel + 1 =>
 (bif (decide (g24 < (x1.kids.length : Int))) then
 (idx x1.kids g24).bind fun v28 =>
 (bif (decide (v28.kind ≠ 3)) then
 m_spec_ParseRules_j6 fuel x1 g21 g23 g24 true
 else
 (idx x1.kids g24).bind fun v30 =>
 m_spec_ParseRules_j6 fuel x1 g21 g23 g24 (decide ((v30.kids.length : Int) ≠ 2)))
 else
 m_spec_ParseRules_j4 fuel g21 g23)
def m_spec_ParseRules_j4 (fuel : Nat) (g21 : (List Form)) (g41 : (List Rule)) : Option ((List Form) × (List Rule) × Bool) :=
 match fuel with
 | 0 => none
 | fuel + 1 =>
 (m_spec_l5Rules fuel g41 g21).bind fun v43 =>
 (bif (!v43) then
 some (([] : List Form), ([] : List Rule), false)
 else
 some (g21, g41, true))
def m_spec_ParseRules_j2 (fuel : Nat) (x1 : Form) (g21 : (List Form)) : Option ((List Form) × (List Rule) × Bool) :=
 match fuel with
 | 0 => none
 | fuel + 1 =>
 m_spec_ParseRules_l5 fuel x1 g21 ([] : List Rule) 2
def m_spec_ParseRules_j1 (fuel : Nat) (x1 : Form) (g8 : Bool) : Option ((List Form) × (List Rule) × Bool) :=
 match fuel with
 | 0 => none
 | fuel + 1 =>
 (bif g8 then
 some (([] : List Form), ([] : List Rule), false)
 else
 m_spec_ParseRules_l3 fuel x1 ([] : List Form) 0)
end
def m_spec_ParseRules (fuel : Nat) (x1 : Form) : Option ((List Form) × (List Rule) × Bool) :=
 (m_spec_FormValid fuel x1).bind fun v1 =>
 (bif (!v1) then
 m_spec_ParseRules_j1 fuel x1 true
 else
 (bif (decide (x1.kind ≠ 3)) then
 m_spec_ParseRules_j1 fuel x1 true
 else
 (bif (decide ((x1.kids.length : Int) < 2)) then
 m_spec_ParseRules_j1 fuel x1 true
 else
 (idx x1.kids 0).bind fun v5 =>
 (bif (decide (v5.name ≠ (⟨#[114, 117, 108, 101, 115]⟩ : ByteArray))) then
 m_spec_ParseRules_j1 fuel x1 true
 else
 (idx x1.kids 1).bind fun v7 =>
 m_spec_ParseRules_j1 fuel x1 (decide (v7.kind ≠ 3))))))
def m_impl_BindsValid_1 (fuel : Nat) (x1 : Bind) (o1 : Bind) : Option Bool :=
 (bif (decide (x1.name = o1.name)) then
 (m_slices_Equal_int fuel x1.scopes o1.scopes).bind fun v2 =>
 some v2
 else
 some false)
def m_slices_IndexFunc_Bind_BindsValid_1_l1 (fuel : Nat) (x1 : (List Bind)) (o1 : Bind) (g1 : Int) : Option Int :=
 match fuel with
 | 0 => none
 | fuel + 1 =>
 (bif (decide (g1 < (x1.length : Int))) then
 (idx x1 g1).bind fun v5 =>
 (m_impl_BindsValid_1 fuel v5 o1).bind fun v6 =>
 (bif v6 then
 some g1
 else
 m_slices_IndexFunc_Bind_BindsValid_1_l1 fuel x1 o1 (g1 + 1))
 else
 some (-1))
def m_slices_IndexFunc_Bind_BindsValid_1 (fuel : Nat) (x1 : (List Bind)) (o1 : Bind) : Option Int :=
 m_slices_IndexFunc_Bind_BindsValid_1_l1 fuel x1 o1 0
def m_slices_ContainsFunc_Bind_BindsValid_1 (fuel : Nat) (x1 : (List Bind)) (o1 : Bind) : Option Bool :=
 (m_slices_IndexFunc_Bind_BindsValid_1 fuel x1 o1).bind fun v1 =>
 some (decide (0 ≤ v1))
mutual
def m_impl_BindsValid_j2 (fuel : Nat) (x1 : (List Bind)) (g1 : Int) (v5 : Bind) (g11 : Bool) : Option Bool :=
 match fuel with
 | 0 => none
 | fuel + 1 =>
 (bif g11 then
 some false
 else
 (sub x1 0 g1).bind fun v14 =>
 (m_slices_ContainsFunc_Bind_BindsValid_1 fuel v14 v5).bind fun v15 =>
 (bif v15 then
 some false
 else
 m_impl_BindsValid_l1 fuel x1 (g1 + 1)))
def m_impl_BindsValid_l1 (fuel : Nat) (x1 : (List Bind)) (g1 : Int) : Option Bool :=
 match fuel with
 | 0 => none
 | fuel + 1 =>
 (bif (decide (g1 < (x1.length : Int))) then
 (idx x1 g1).bind fun v5 =>
 (m_impl_NameValid fuel v5.name).bind fun v6 =>
 (bif (!v6) then
 m_impl_BindsValid_j2 fuel x1 g1 v5 true
 else
 (m_impl_scopesOk fuel v5.scopes).bind fun v8 =>
 (bif (!v8) then
 m_impl_BindsValid_j2 fuel x1 g1 v5 true
 else
 (m_impl_within fuel v5.id 1 999).bind fun v10 =>
 m_impl_BindsValid_j2 fuel x1 g1 v5 (!v10)))
 else
 some (decide ((x1.length : Int) ≤ 60)))
end
def m_impl_BindsValid (fuel : Nat) (x1 : (List Bind)) : Option Bool :=
 m_impl_BindsValid_l1 fuel x1 0
def m_impl_rulesOk_1 (fuel : Nat) (x1 : Rule) (o1 : (List Form)) : Option Bool :=
 (m_impl_RuleValid fuel x1 o1).bind fun v1 =>
 some (!v1)
def m_slices_IndexFunc_Rule_rulesOk_1_l1 (fuel : Nat) (x1 : (List Rule)) (o1 : (List Form)) (g1 : Int) : Option Int :=
 match fuel with
 | 0 => none
 | fuel + 1 =>
 (bif (decide (g1 < (x1.length : Int))) then
 (idx x1 g1).bind fun v5 =>
 (m_impl_rulesOk_1 fuel v5 o1).bind fun v6 =>
 (bif v6 then
 some g1
 else
 m_slices_IndexFunc_Rule_rulesOk_1_l1 fuel x1 o1 (g1 + 1))
 else
 some (-1))
def m_slices_IndexFunc_Rule_rulesOk_1 (fuel : Nat) (x1 : (List Rule)) (o1 : (List Form)) : Option Int :=
 m_slices_IndexFunc_Rule_rulesOk_1_l1 fuel x1 o1 0
def m_slices_ContainsFunc_Rule_rulesOk_1 (fuel : Nat) (x1 : (List Rule)) (o1 : (List Form)) : Option Bool :=
 (m_slices_IndexFunc_Rule_rulesOk_1 fuel x1 o1).bind fun v1 =>
 some (decide (0 ≤ v1))
def m_impl_rulesOk (fuel : Nat) (x1 : (List Rule)) (x2 : (List Form)) : Option Bool :=
 (bif (decide ((x1.length : Int) ≤ 9)) then
 (m_impl_literalsOk fuel x2).bind fun v2 =>
 (bif v2 then
 (m_slices_ContainsFunc_Rule_rulesOk_1 fuel x1 x2).bind fun v4 =>
 some (!v4)
 else
 some false)
 else
 some false)
def m_laws_eqRuleS_l1 (fuel : Nat) (x1 : (List Rule)) (x2 : (List Rule)) (g2 : Int) : Option Bool :=
 match fuel with
 | 0 => none
 | fuel + 1 =>
 (bif (decide (g2 < (x1.length : Int))) then
 (idx x1 g2).bind fun v6 =>
 (idx x2 g2).bind fun v7 =>
 (m_laws_eqRule fuel v6 v7).bind fun v8 =>
 (bif (!v8) then
 some false
 else
 m_laws_eqRuleS_l1 fuel x1 x2 (g2 + 1))
 else
 some true)
def m_laws_eqRuleS (fuel : Nat) (x1 : (List Rule)) (x2 : (List Rule)) : Option Bool :=
 (bif (decide ((x1.length : Int) ≠ (x2.length : Int))) then
 some false
 else
 m_laws_eqRuleS_l1 fuel x1 x2 0)
def m_slices_Index_int_l1 (fuel : Nat) (x1 : (List Int)) (x2 : Int) (g1 : Int) : Option Int :=
 match fuel with
 | 0 => none
 | fuel + 1 =>
 (bif (decide (g1 < (x1.length : Int))) then
 (idx x1 g1).bind fun v5 =>
 (bif (decide (x2 = v5)) then
 some g1
 else
 m_slices_Index_int_l1 fuel x1 x2 (g1 + 1))
 else
 some (-1))
def m_slices_Index_int (fuel : Nat) (x1 : (List Int)) (x2 : Int) : Option Int :=
 m_slices_Index_int_l1 fuel x1 x2 0
def m_slices_Contains_int (fuel : Nat) (x1 : (List Int)) (x2 : Int) : Option Bool :=
 (m_slices_Index_int fuel x1 x2).bind fun v1 =>
 some (decide (0 ≤ v1))
def m_impl_ScopesWithin_1 (fuel : Nat) (x1 : Int) (o1 : (List Int)) : Option Bool :=
 (m_slices_Contains_int fuel o1 x1).bind fun v1 =>
 some (!v1)
def m_slices_IndexFunc_int_ScopesWithin_1_l1 (fuel : Nat) (x1 : (List Int)) (o1 : (List Int)) (g1 : Int) : Option Int :=
 match fuel with
 | 0 => none
 | fuel + 1 =>
 (bif (decide (g1 < (x1.length : Int))) then
 (idx x1 g1).bind fun v5 =>
 (m_impl_ScopesWithin_1 fuel v5 o1).bind fun v6 =>
 (bif v6 then
 some g1
 else
 m_slices_IndexFunc_int_ScopesWithin_1_l1 fuel x1 o1 (g1 + 1))
 else
 some (-1))
def m_slices_IndexFunc_int_ScopesWithin_1 (fuel : Nat) (x1 : (List Int)) (o1 : (List Int)) : Option Int :=
 m_slices_IndexFunc_int_ScopesWithin_1_l1 fuel x1 o1 0
def m_slices_ContainsFunc_int_ScopesWithin_1 (fuel : Nat) (x1 : (List Int)) (o1 : (List Int)) : Option Bool :=
 (m_slices_IndexFunc_int_ScopesWithin_1 fuel x1 o1).bind fun v1 =>
 some (decide (0 ≤ v1))
def m_impl_ScopesWithin (fuel : Nat) (x1 : (List Int)) (x2 : (List Int)) : Option Bool :=
 (m_slices_ContainsFunc_int_ScopesWithin_1 fuel x1 x2).bind fun v1 =>
 some (!v1)
mutual
def m_impl_fitting_j2 (fuel : Nat) (x1 : (List Bind)) (x2 : Form) (g1 : (List Int)) (g2 : Int) (g9 : Bool) : Option (List Int) :=
 match fuel with
 | 0 => none
 | fuel + 1 =>
 (bif g9 then
 chk (decide ((g1.length + [g2].length) * 8 ≤ 140737488355328)) <|
 m_impl_fitting_l1 fuel x1 x2 (g1 ++ [g2]) (g2 + 1)
 else
 m_impl_fitting_l1 fuel x1 x2 g1 (g2 + 1))
def m_impl_fitting_l1 (fuel : Nat) (x1 : (List Bind)) (x2 : Form) (g1 : (List Int)) (g2 : Int) : Option (List Int) :=
 match fuel with
 | 0 => none
 | fuel + 1 =>
 (bif (decide (g2 < (x1.length : Int))) then
 (idx x1 g2).bind fun v6 =>
 (bif (decide (v6.name = x2.name)) then
 (m_impl_ScopesWithin fuel v6.scopes x2.scopes).bind fun v8 =>
 m_impl_fitting_j2 fuel x1 x2 g1 g2 v8
 else
 m_impl_fitting_j2 fuel x1 x2 g1 g2 false)
 else
 some g1)
end
def m_impl_fitting (fuel : Nat) (x1 : (List Bind)) (x2 : Form) : Option (List Int) :=
 m_impl_fitting_l1 fuel x1 x2 ([] : List Int) 0
def m_impl_bound_1 (fuel : Nat) (x1 : Int) (o1 : (List Bind)) (o2 : Int) : Option Bool :=
 (idx o1 x1).bind fun v1 =>
 (idx o1 o2).bind fun v2 =>
 (m_impl_ScopesWithin fuel v1.scopes v2.scopes).bind fun v3 =>
 some (!v3)
def m_slices_IndexFunc_int_bound_1_l1 (fuel : Nat) (x1 : (List Int)) (o1 : (List Bind)) (o2 : Int) (g1 : Int) : Option Int :=
 match fuel with
 | 0 => none
 | fuel + 1 =>
 (bif (decide (g1 < (x1.length : Int))) then
 (idx x1 g1).bind fun v5 =>
 (m_impl_bound_1 fuel v5 o1 o2).bind fun v6 =>
 (bif v6 then
 some g1
 else
 m_slices_IndexFunc_int_bound_1_l1 fuel x1 o1 o2 (g1 + 1))
 else
 some (-1))
def m_slices_IndexFunc_int_bound_1 (fuel : Nat) (x1 : (List Int)) (o1 : (List Bind)) (o2 : Int) : Option Int :=
 m_slices_IndexFunc_int_bound_1_l1 fuel x1 o1 o2 0
def m_slices_ContainsFunc_int_bound_1 (fuel : Nat) (x1 : (List Int)) (o1 : (List Bind)) (o2 : Int) : Option Bool :=
 (m_slices_IndexFunc_int_bound_1 fuel x1 o1 o2).bind fun v1 =>
 some (decide (0 ≤ v1))
def m_impl_bound_l1 (fuel : Nat) (x1 : (List Bind)) (v1 : (List Int)) (g3 : Int) : Option (Int × Int) :=
 match fuel with
 | 0 => none
 | fuel + 1 =>
 (bif (decide (g3 < (v1.length : Int))) then
 (idx v1 g3).bind fun v7 =>
 (m_slices_ContainsFunc_int_bound_1 fuel v1 x1 v7).bind fun v8 =>
 (bif (!v8) then
 some (v7, 1)
 else
 m_impl_bound_l1 fuel x1 v1 (g3 + 1))
 else
 some (0, 2))
def m_impl_bound (fuel : Nat) (x1 : (List Bind)) (x2 : Form) : Option (Int × Int) :=
 (m_impl_fitting fuel x1 x2).bind fun v1 =>
 (bif (decide ((v1.length : Int) = 0)) then
 some (0, 0)
 else
 m_impl_bound_l1 fuel x1 v1 0)
mutual
def m_impl_ParseRules_l3 (fuel : Nat) (x1 : Form) (v12 : Form) (g13 : (List Form)) (g14 : Int) : Option ((List Form) × (List Rule) × Bool) :=
 match fuel with
 | 0 => none
 | fuel + 1 =>
 (bif (decide (g14 < (v12.kids.length : Int))) then
 (idx v12.kids g14).bind fun v18 =>
 (m_impl_copyForm fuel v18).bind fun v19 =>
 chk (decide ((g13.length + [v19].length) * 80 ≤ 140737488355328)) <|
 m_impl_ParseRules_l3 fuel x1 v12 (g13 ++ [v19]) (g14 + 1)
 else
 m_impl_ParseRules_j2 fuel x1 g13)
def m_impl_ParseRules_j6 (fuel : Nat) (g21 : (List Form)) (v23 : (List Form)) (g24 : (List Rule)) (g25 : Int) (v29 : Form) (g31 : Bool) : Option ((List Form) × (List Rule) × Bool) :=
 match fuel with
 | 0 => none
 | fuel + 1 =>
 (bif g31 then
 some (([] : List Form), ([] : List Rule), false)
 else
 (idx v29.kids 0).bind fun v34 =>
 (m_impl_copyForm fuel v34).bind fun v35 =>
 (idx v29.kids 1).bind fun v36 =>
 (m_impl_copyForm fuel v36).bind fun v37 =>
 chk (decide ((g24.length + [(Rule.mk v35 v37)].length) * 160 ≤ 140737488355328)) <|
 m_impl_ParseRules_l5 fuel g21 v23 (g24 ++ [(Rule.mk v35 v37)]) (g25 + 1))
def m_impl_ParseRules_l5 (fuel : Nat) (g21 : (List Form)) (v23 : (List Form)) (g24 : (List Rule)) (g25 : Int) : Option ((List Form) × (List Rule) × Bool) :=
 match fuel with
 | 0 => none
 | fuel + 1 =>
 (bif (decide (g25 < (v23.length : Int))) then
 (idx v23 g25).bind fun v29 =>
 (bif (decide (v29.kind ≠ 3)) then
 m_impl_ParseRules_j6 fuel g21 v23 g24 g25 v29 true
 else
 m_impl_ParseRules_j6 fuel g21 v23 g24 g25 v29 (decide ((v29.kids.length : Int) ≠ 2)))
 else
 m_impl_ParseRules_j4 fuel g21 g24)
def m_impl_ParseRules_j4 (fuel : Nat) (g21 : (List Form)) (g39 : (List Rule)) : Option ((List Form) × (List Rule) × Bool) :=
 match fuel with
 | 0 => none
 | fuel + 1 =>
 (m_impl_rulesOk fuel g39 g21).bind fun v41 =>
 (bif (!v41) then
 some (([] : List Form), ([] : List Rule), false)
 else
 some (g21, g39, true))
def m_impl_ParseRules_j2 (fuel : Nat) (x1 : Form) (g21 : (List Form)) : Option ((List Form) × (List Rule) × Bool) :=
 match fuel with
 | 0 => none
 | fuel + 1 =>
 (sub x1.kids 2 (x1.kids.length : Int)).bind fun v23 =>
 m_impl_ParseRules_l5 fuel g21 v23 ([] : List Rule) 0
def m_impl_ParseRules_j1 (fuel : Nat) (x1 : Form) (g9 : Bool) : Option ((List Form) × (List Rule) × Bool) :=
 match fuel with
 | 0 => none
 | fuel + 1 =>
 (bif g9 then
 some (([] : List Form), ([] : List Rule), false)
 else
 (idx x1.kids 1).bind fun v12 =>
 m_impl_ParseRules_l3 fuel x1 v12 ([] : List Form) 0)
end
def m_impl_ParseRules (fuel : Nat) (x1 : Form) : Option ((List Form) × (List Rule) × Bool) :=
 (m_impl_FormValid fuel x1).bind fun v1 =>
 (bif (!v1) then
 m_impl_ParseRules_j1 fuel x1 true
 else
 (bif (decide (x1.kind ≠ 3)) then
 m_impl_ParseRules_j1 fuel x1 true
 else
 (bif (decide ((x1.kids.length : Int) < 2)) then
 m_impl_ParseRules_j1 fuel x1 true
 else
 (idx x1.kids 0).bind fun v5 =>
 (m_impl_named fuel v5 (⟨#[114, 117, 108, 101, 115]⟩ : ByteArray)).bind fun v6 =>
 (bif (!v6) then
 m_impl_ParseRules_j1 fuel x1 true
 else
 (idx x1.kids 1).bind fun v8 =>
 m_impl_ParseRules_j1 fuel x1 (decide (v8.kind ≠ 3))))))
def m_impl_FindName_j1 (fuel : Nat) (x1 : (List Bind)) (x2 : Form) (g4 : Bool) : Option (Int × Int) :=
 match fuel with
 | 0 => none
 | fuel + 1 =>
 (bif g4 then
 some (0, 0)
 else
 (m_impl_bound fuel x1 x2).bind fun v7 =>
 (bif (decide (v7.2 ≠ 1)) then
 some (0, v7.2)
 else
 (idx x1 v7.1).bind fun v9 =>
 some (v9.id, 1)))
def m_impl_FindName (fuel : Nat) (x1 : (List Bind)) (x2 : Form) : Option (Int × Int) :=
 (m_impl_BindsValid fuel x1).bind fun v1 =>
 (bif (!v1) then
 m_impl_FindName_j1 fuel x1 x2 true
 else
 (m_impl_isName fuel x2).bind fun v3 =>
 m_impl_FindName_j1 fuel x1 x2 (!v3))
def m_impl_SameReference_j1 (fuel : Nat) (x1 : (List Bind)) (x2 : Form) (x3 : Form) (g6 : Bool) : Option Bool :=
 match fuel with
 | 0 => none
 | fuel + 1 =>
 (bif g6 then
 some false
 else
 (m_impl_FindName fuel x1 x2).bind fun v9 =>
 (m_impl_FindName fuel x1 x3).bind fun v10 =>
 (bif (decide (v9.2 = 1)) then
 (bif (decide (v10.2 = 1)) then
 (bif (decide (v9.1 = v10.1)) then
 some true
 else
 (bif (decide (v9.2 = 0)) then
 (bif (decide (v10.2 = 0)) then
 some (decide (x2.name = x3.name))
 else
 some false)
 else
 some false))
 else
 (bif (decide (v9.2 = 0)) then
 (bif (decide (v10.2 = 0)) then
 some (decide (x2.name = x3.name))
 else
 some false)
 else
 some false))
 else
 (bif (decide (v9.2 = 0)) then
 (bif (decide (v10.2 = 0)) then
 some (decide (x2.name = x3.name))
 else
 some false)
 else
 some false)))
def m_impl_SameReference (fuel : Nat) (x1 : (List Bind)) (x2 : Form) (x3 : Form) : Option Bool :=
 (m_impl_BindsValid fuel x1).bind fun v1 =>
 (bif (!v1) then
 m_impl_SameReference_j1 fuel x1 x2 x3 true
 else
 (m_impl_isName fuel x2).bind fun v3 =>
 (bif (!v3) then
 m_impl_SameReference_j1 fuel x1 x2 x3 true
 else
 (m_impl_isName fuel x3).bind fun v5 =>
 m_impl_SameReference_j1 fuel x1 x2 x3 (!v5)))
mutual
def m_impl_match (fuel : Nat) (x1 : (List Bind)) (x2 : Form) (x3 : (List Form)) (x4 : Form) : Option ((List Hit) × Bool) :=
 match fuel with
 | 0 => none
 | fuel + 1 =>
 (bif (decide (x2.kind = 1)) then
 (bif (decide (x2.name = (⟨#[95]⟩ : ByteArray))) then
 some (([] : List Hit), true)
 else
 (m_impl_isIn fuel x3 x2).bind fun v3 =>
 (bif v3 then
 (m_impl_SameReference fuel x1 x2 x4).bind fun v5 =>
 some (([] : List Hit), v5)
 else
 (m_impl_copyForm fuel x2).bind fun v6 =>
 (m_impl_copyForm fuel x4).bind fun v7 =>
 some ([(Hit.mk v6 0 v7 ([] : List Hit))], true)))
 else
 (bif (decide (x2.kind = 2)) then
 (m_impl_FormSame fuel x2 x4).bind fun v9 =>
 some (([] : List Hit), v9)
 else
 (bif (decide (x4.kind ≠ 3)) then
 some (([] : List Hit), false)
 else
 (m_impl_dotsAt fuel x2.kids).bind fun v11 =>
 (bif (decide (v11 < 0)) then
 (bif (decide ((x2.kids.length : Int) ≠ (x4.kids.length : Int))) then
 some (([] : List Hit), false)
 else
 m_impl_match_l2 fuel x1 x2 x3 x4 0 ([] : List Hit))
 else
 (bif (decide ((w64 ((x4.kids.length : Int) - (w64 ((x2.kids.length : Int) - 2)))) < 0)) then
 some (([] : List Hit), false)
 else
 m_impl_match_l4 fuel x1 x2 x3 x4 v11 0 ([] : List Hit))))))
def m_impl_match_l2 (fuel : Nat) (x1 : (List Bind)) (x2 : Form) (x3 : (List Form)) (x4 : Form) (g14 : Int) (g15 : (List Hit)) : Option ((List Hit) × Bool) :=
 match fuel with
 | 0 => none
 | fuel + 1 =>
 (bif (decide (g14 < (x2.kids.length : Int))) then
 (idx x2.kids g14).bind fun v19 =>
 (idx x4.kids g14).bind fun v20 =>
 (m_impl_match_1 fuel v19 v20 x1 x3 g15).bind fun v21 =>
 (bif (!v21.1) then
 some (([] : List Hit), false)
 else
 m_impl_match_l2 fuel x1 x2 x3 x4 (g14 + 1) v21.2)
 else
 m_impl_match_j1 fuel  g15)
def m_impl_match_j1 (fuel : Nat) (g23 : (List Hit)) : Option ((List Hit) × Bool) :=
 match fuel with
 | 0 => none
 | fuel + 1 =>
 some (g23, true)
def m_impl_match_l4 (fuel : Nat) (x1 : (List Bind)) (x2 : Form) (x3 : (List Form)) (x4 : Form) (v11 : Int) (g26 : Int) (g27 : (List Hit)) : Option ((List Hit) × Bool) :=
 match fuel with
 | 0 => none
 | fuel + 1 =>
 (bif (decide (g26 < (w64 (v11 - 1)))) then
 (idx x2.kids g26).bind fun v30 =>
 (idx x4.kids g26).bind fun v31 =>
 (m_impl_match_1 fuel v30 v31 x1 x3 g27).bind fun v32 =>
 (bif (!v32.1) then
 some (([] : List Hit), false)
 else
 m_impl_match_l4 fuel x1 x2 x3 x4 v11 (w64 (g26 + 1)) v32.2)
 else
 m_impl_match_j3 fuel x1 x2 x3 x4 v11 g27)
def m_impl_match_l6 (fuel : Nat) (x1 : (List Bind)) (x2 : Form) (x3 : (List Form)) (x4 : Form) (v11 : Int) (g34 : (List Hit)) (v37 : (List Form) × (List Int)) (g38 : (List Hit)) (g39 : Int) : Option ((List Hit) × Bool) :=
 match fuel with
 | 0 => none
 | fuel + 1 =>
 (bif (decide (g39 < (v37.1.length : Int))) then
 (idx v37.1 g39).bind fun v43 =>
 (m_impl_copyForm fuel v43).bind fun v44 =>
 (idx v37.2 g39).bind fun v45 =>
 chk (decide ((g38.length + [(Hit.mk v44 (w64 (v45 + 1)) (Form.mk 0 (⟨#[]⟩ : ByteArray) 0 ([] : List Int) ([] : List Form)) ([] : List Hit))].length) * 192 ≤ 140737488355328)) <|
 m_impl_match_l6 fuel x1 x2 x3 x4 v11 g34 v37 (g38 ++ [(Hit.mk v44 (w64 (v45 + 1)) (Form.mk 0 (⟨#[]⟩ : ByteArray) 0 ([] : List Int) ([] : List Form)) ([] : List Hit))]) (g39 + 1)
 else
 m_impl_match_j5 fuel x1 x2 x3 x4 v11 g34 g38)
def m_impl_match_l9 (fuel : Nat) (x1 : (List Bind)) (x2 : Form) (x3 : (List Form)) (x4 : Form) (v11 : Int) (g34 : (List Hit)) (v49 : (List Form)) (g50 : Int) (g51 : (List Hit)) (v57 : (List Hit) × Bool) (g59 : Int) (g60 : (List Hit)) : Option ((List Hit) × Bool) :=
 match fuel with
 | 0 => none
 | fuel + 1 =>
 (bif (decide (g59 < (g51.length : Int))) then
 (idx g60 g59).bind fun v63 =>
 (idx v57.1 g59).bind fun v64 =>
 chk (decide ((v63.many.length + [(Hit.mk (Form.mk 0 (⟨#[]⟩ : ByteArray) 0 ([] : List Int) ([] : List Form)) 0 (Form.mk 0 (⟨#[]⟩ : ByteArray) 0 ([] : List Int) ([] : List Form)) ([] : List Hit))].length) * 192 ≤ 140737488355328)) <|
 (idx (v63.many ++ [(Hit.mk (Form.mk 0 (⟨#[]⟩ : ByteArray) 0 ([] : List Int) ([] : List Form)) 0 (Form.mk 0 (⟨#[]⟩ : ByteArray) 0 ([] : List Int) ([] : List Form)) ([] : List Hit))]) (v63.many.length : Int)).bind fun v66 =>
 (idx g60 g59).bind fun v67 =>
 m_impl_match_l9 fuel x1 x2 x3 x4 v11 g34 v49 g50 g51 v57 (w64 (g59 + 1)) (g60.set g59.toNat (Hit.mk v63.name v63.depth v63.one ((v63.many ++ [(Hit.mk (Form.mk 0 (⟨#[]⟩ : ByteArray) 0 ([] : List Int) ([] : List Form)) 0 (Form.mk 0 (⟨#[]⟩ : ByteArray) 0 ([] : List Int) ([] : List Form)) ([] : List Hit))]).set (v63.many.length : Int).toNat v64)))
 else
 m_impl_match_l8 fuel x1 x2 x3 x4 v11 g34 v49 (w64 (g50 + 1)) g60)
def m_impl_match_l8 (fuel : Nat) (x1 : (List Bind)) (x2 : Form) (x3 : (List Form)) (x4 : Form) (v11 : Int) (g34 : (List Hit)) (v49 : (List Form)) (g50 : Int) (g51 : (List Hit)) : Option ((List Hit) × Bool) :=
 match fuel with
 | 0 => none
 | fuel + 1 =>
 (bif (decide (g50 < (v49.length : Int))) then
 (idx v49 g50).bind fun v55 =>
 (idx x2.kids (w64 (v11 - 1))).bind fun v56 =>
 (m_impl_match fuel x1 v56 x3 v55).bind fun v57 =>
 (bif (!v57.2) then
 some (([] : List Hit), false)
 else
 m_impl_match_l9 fuel x1 x2 x3 x4 v11 g34 v49 g50 g51 v57 0 g51)
 else
 m_impl_match_j7 fuel x1 x2 x3 x4 v11 g34 g51)
def m_impl_match_l10 (fuel : Nat) (x1 : (List Bind)) (x2 : Form) (x3 : (List Form)) (x4 : Form) (v11 : Int) (g71 : Int) (g72 : (List Hit)) : Option ((List Hit) × Bool) :=
 match fuel with
 | 0 => none
 | fuel + 1 =>
 (bif (decide (g71 < (x2.kids.length : Int))) then
 (idx x2.kids g71).bind fun v76 =>
 (idx x4.kids (w64 ((w64 ((w64 ((w64 ((w64 (v11 - 1)) + (w64 ((x4.kids.length : Int) - (w64 ((x2.kids.length : Int) - 2)))))) + g71)) - v11)) - 1))).bind fun v77 =>
 (m_impl_match_1 fuel v76 v77 x1 x3 g72).bind fun v78 =>
 (bif (!v78.1) then
 some (([] : List Hit), false)
 else
 m_impl_match_l10 fuel x1 x2 x3 x4 v11 (g71 + 1) v78.2)
 else
 some (g72, true))
def m_impl_match_j7 (fuel : Nat) (x1 : (List Bind)) (x2 : Form) (x3 : (List Form)) (x4 : Form) (v11 : Int) (g34 : (List Hit)) (g68 : (List Hit)) : Option ((List Hit) × Bool) :=
 match fuel with
 | 0 => none
 | fuel + 1 =>
 chk (decide ((g34.length + g68.length) * 192 ≤ 140737488355328)) <|
 m_impl_match_l10 fuel x1 x2 x3 x4 v11 (w64 (v11 + 1)) (g34 ++ g68)
def m_impl_match_j5 (fuel : Nat) (x1 : (List Bind)) (x2 : Form) (x3 : (List Form)) (x4 : Form) (v11 : Int) (g34 : (List Hit)) (g47 : (List Hit)) : Option ((List Hit) × Bool) :=
 match fuel with
 | 0 => none
 | fuel + 1 =>
 (sub x4.kids (w64 (v11 - 1)) (w64 ((w64 (v11 - 1)) + (w64 ((x4.kids.length : Int) - (w64 ((x2.kids.length : Int) - 2))))))).bind fun v49 =>
 m_impl_match_l8 fuel x1 x2 x3 x4 v11 g34 v49 0 g47
def m_impl_match_j3 (fuel : Nat) (x1 : (List Bind)) (x2 : Form) (x3 : (List Form)) (x4 : Form) (v11 : Int) (g34 : (List Hit)) : Option ((List Hit) × Bool) :=
 match fuel with
 | 0 => none
 | fuel + 1 =>
 (idx x2.kids (w64 (v11 - 1))).bind fun v36 =>
 (m_impl_varsOf fuel v36 x3).bind fun v37 =>
 m_impl_match_l6 fuel x1 x2 x3 x4 v11 g34 v37 ([] : List Hit) 0
def m_impl_match_1 (fuel : Nat) (x1 : Form) (x2 : Form) (o1 : (List Bind)) (o2 : (List Form)) (o3 : (List Hit)) : Option (Bool × (List Hit)) :=
 match fuel with
 | 0 => none
 | fuel + 1 =>
 (m_impl_match fuel o1 x1 o2 x2).bind fun v1 =>
 chk (decide ((o3.length + v1.1.length) * 192 ≤ 140737488355328)) <|
 some (v1.2, (o3 ++ v1.1))
end
def m_laws_markIntS_l1 (fuel : Nat) (g1 : Int) (g2 : Int) (g3 : (List Int)) : Option (Int × (List Int)) :=
 match fuel with
 | 0 => none
 | fuel + 1 =>
 (bif (decide (g2 < (g3.length : Int))) then
 (idx g3 g2).bind fun v7 =>
 m_laws_markIntS_l1 fuel  (w64 (g1 + 1)) (g2 + 1) (g3.set g2.toNat g1)
 else
 some (g1, g3))
def m_laws_markIntS (fuel : Nat) (x1 : (List Int)) (x2 : Int) : Option (Int × (List Int)) :=
 m_laws_markIntS_l1 fuel  x2 0 x1
def m_laws_markText_l1 (fuel : Nat) (g2 : Int) (g3 : ByteArray) : Option ByteArray :=
 match fuel with
 | 0 => none
 | fuel + 1 =>
 (bif (decide (0 < g2)) then
 (bcat (strOf [(w8 (w64 (48 + (g2.tmod 10))))]) g3).bind fun v6 =>
 m_laws_markText_l1 fuel  (w64 (g2.tdiv 10)) v6
 else
 (bcat (⟨#[109]⟩ : ByteArray) g3).bind fun v7 =>
 some v7)
def m_laws_markText (fuel : Nat) (x1 : Int) : Option ByteArray :=
 (bif (decide (x1 ≤ 0)) then
 some (⟨#[109, 48]⟩ : ByteArray)
 else
 m_laws_markText_l1 fuel  x1 (⟨#[]⟩ : ByteArray))
mutual
def m_laws_markFormS (fuel : Nat) (x1 : (List Form)) (x2 : Int) : Option (Int × (List Form)) :=
 match fuel with
 | 0 => none
 | fuel + 1 =>
 m_laws_markFormS_l1 fuel  x2 0 x1
def m_laws_markFormS_l1 (fuel : Nat) (g1 : Int) (g2 : Int) (g3 : (List Form)) : Option (Int × (List Form)) :=
 match fuel with
 | 0 => none
 | fuel + 1 =>
 (bif (decide (g2 < (g3.length : Int))) then
 (idx g3 g2).bind fun v6 =>
 (m_laws_markText fuel (w64 (g1 + 1))).bind fun v7 =>
 (idx (g3.set g2.toNat (Form.mk g1 v6.name v6.n v6.scopes v6.kids)) g2).bind fun v8 =>
 (idx ((g3.set g2.toNat (Form.mk g1 v6.name v6.n v6.scopes v6.kids)).set g2.toNat (Form.mk v8.kind v7 v8.n v8.scopes v8.kids)) g2).bind fun v9 =>
 (idx (((g3.set g2.toNat (Form.mk g1 v6.name v6.n v6.scopes v6.kids)).set g2.toNat (Form.mk v8.kind v7 v8.n v8.scopes v8.kids)).set g2.toNat (Form.mk v9.kind v9.name (w64 ((w64 (g1 + 1)) + 1)) v9.scopes v9.kids)) g2).bind fun v10 =>
 (m_laws_markIntS fuel v10.scopes (w64 ((w64 ((w64 (g1 + 1)) + 1)) + 1))).bind fun v11 =>
 (idx ((((g3.set g2.toNat (Form.mk g1 v6.name v6.n v6.scopes v6.kids)).set g2.toNat (Form.mk v8.kind v7 v8.n v8.scopes v8.kids)).set g2.toNat (Form.mk v9.kind v9.name (w64 ((w64 (g1 + 1)) + 1)) v9.scopes v9.kids)).set g2.toNat (Form.mk v10.kind v10.name v10.n v11.2 v10.kids)) g2).bind fun v12 =>
 (m_laws_markFormS fuel v12.kids v11.1).bind fun v13 =>
 m_laws_markFormS_l1 fuel  v13.1 (w64 (g2 + 1)) (((((g3.set g2.toNat (Form.mk g1 v6.name v6.n v6.scopes v6.kids)).set g2.toNat (Form.mk v8.kind v7 v8.n v8.scopes v8.kids)).set g2.toNat (Form.mk v9.kind v9.name (w64 ((w64 (g1 + 1)) + 1)) v9.scopes v9.kids)).set g2.toNat (Form.mk v10.kind v10.name v10.n v11.2 v10.kids)).set g2.toNat (Form.mk v12.kind v12.name v12.n v12.scopes v13.2))
 else
 some (g1, g3))
end
def m_laws_markForm (fuel : Nat) (x1 : Form) (x2 : Int) : Option (Int × (List Int) × (List Form)) :=
 (m_laws_markIntS fuel x1.scopes x2).bind fun v1 =>
 (m_laws_markFormS fuel x1.kids v1.1).bind fun v2 =>
 some (v2.1, v1.2, v2.2)
def m_laws_heldIntS_l1 (fuel : Nat) (x1 : (List Int)) (g1 : Int) (g2 : Int) : Option Int :=
 match fuel with
 | 0 => none
 | fuel + 1 =>
 (bif (decide (g2 < (x1.length : Int))) then
 (idx x1 g2).bind fun v6 =>
 (bif (decide (v6 ≠ g1)) then
 some (-1)
 else
 m_laws_heldIntS_l1 fuel x1 (w64 (g1 + 1)) (g2 + 1))
 else
 some g1)
def m_laws_heldIntS (fuel : Nat) (x1 : (List Int)) (x2 : Int) : Option Int :=
 m_laws_heldIntS_l1 fuel x1 x2 0
end Go.Abs
