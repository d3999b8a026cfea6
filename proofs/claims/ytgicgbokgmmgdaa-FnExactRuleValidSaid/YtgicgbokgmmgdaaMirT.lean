/- What the functions of the program and of the reference compute, on typed values, as their text says. -/
import Derived.Test.YtgicgbokgmmgdaaAbsExt
set_option linter.unusedSimpArgs false
set_option maxHeartbeats 4000000
set_option linter.unusedVariables false
namespace Go.Abs
def m_spec_l15Open (fuel : Nat) (x1 : (List Int)) : Option l15Rd :=
 (bif (decide (2000 < (x1.length : Int))) then
 (sub x1 0 2000).bind fun v3 =>
 some (l15Rd.mk v3 0)
 else
 some (l15Rd.mk x1 0))
def m_spec_l4Texts (fuel : Nat)  : Option (List (List ByteArray)) :=
 some [[(⟨#[40, 95, 32, 97, 32, 98, 41]⟩ : ByteArray), (⟨#[40, 115, 119, 97, 112, 32, 120, 32, 121, 41]⟩ : ByteArray)], [(⟨#[40, 95, 32, 97, 32, 46, 46, 46, 41]⟩ : ByteArray), (⟨#[40, 108, 105, 115, 116, 32, 49, 32, 50, 32, 51, 41]⟩ : ByteArray)], [(⟨#[40, 95, 32, 40, 120, 32, 118, 41, 32, 46, 46, 46, 32, 98, 111, 100, 121, 41]⟩ : ByteArray), (⟨#[40, 108, 101, 116, 32, 40, 112, 32, 49, 41, 32, 40, 113, 32, 50, 41, 32, 40, 102, 32, 112, 32, 113, 41, 41]⟩ : ByteArray)], [(⟨#[40, 95, 32, 40, 40, 120, 32, 118, 41, 32, 46, 46, 46, 41, 32, 98, 111, 100, 121, 32, 46, 46, 46, 41]⟩ : ByteArray), (⟨#[40, 108, 101, 116, 32, 40, 40, 112, 32, 49, 41, 32, 40, 113, 32, 40, 103, 32, 50, 41, 41, 41, 32, 112, 32, 113, 41]⟩ : ByteArray)], [(⟨#[40, 95, 32, 40, 97, 32, 98, 32, 46, 46, 46, 41, 32, 46, 46, 46, 41]⟩ : ByteArray), (⟨#[40, 109, 32, 40, 120, 32, 49, 32, 50, 41, 32, 40, 121, 41, 32, 40, 122, 32, 51, 41, 41]⟩ : ByteArray)], [(⟨#[40, 95, 32, 97, 32, 101, 108, 115, 101, 32, 98, 41]⟩ : ByteArray), (⟨#[40, 109, 32, 112, 32, 101, 108, 115, 101, 32, 113, 41]⟩ : ByteArray)], [(⟨#[40, 95, 41]⟩ : ByteArray), (⟨#[40, 109, 41]⟩ : ByteArray)], [(⟨#[40, 95, 32, 53, 32, 97, 41]⟩ : ByteArray), (⟨#[40, 109, 32, 53, 32, 120, 41]⟩ : ByteArray)], [(⟨#[40, 95, 32, 97, 32, 46, 46, 46, 32, 122, 41]⟩ : ByteArray), (⟨#[40, 109, 32, 49, 32, 50, 32, 51, 32, 52, 41]⟩ : ByteArray)], [(⟨#[97]⟩ : ByteArray), (⟨#[40, 102, 32, 120, 41]⟩ : ByteArray)], [(⟨#[40, 95, 32, 40, 97, 32, 40, 98, 32, 46, 46, 46, 41, 32, 46, 46, 46, 41, 32, 46, 46, 46, 41]⟩ : ByteArray), (⟨#[40, 109, 32, 40, 120, 32, 40, 49, 32, 50, 41, 32, 40, 41, 41, 32, 40, 121, 41, 41]⟩ : ByteArray)]]
def m_spec_l15Rd_pick (fuel : Nat) (o1 : l15Rd) (x2 : Int) : Option (Int × l15Rd) :=
 (bif (decide (x2 < 1)) then
 some (0, (l15Rd.mk o1.b (w64 (o1.p + 1))))
 else
 (bif (decide ((o1.b.length : Int) = 0)) then
 some (0, (l15Rd.mk o1.b (w64 (o1.p + 1))))
 else
 (bif (decide ((w64 ((w64 (o1.p + 1)) - 1)) < (o1.b.length : Int))) then
 (idx o1.b (w64 ((w64 (o1.p + 1)) - 1))).bind fun v4 =>
 chk (decide (x2 ≠ 0)) <|
 some (((w64 v4).tmod x2), (l15Rd.mk o1.b (w64 (o1.p + 1))))
 else
 chk (decide ((o1.b.length : Int) ≠ 0)) <|
 (idx o1.b ((w64 ((w64 (o1.p + 1)) - 1)).tmod (o1.b.length : Int))).bind fun v7 =>
 chk (decide ((o1.b.length : Int) ≠ 0)) <|
 (idx o1.b ((w64 ((w64 ((w64 ((w64 (o1.p + 1)) - 1)) * 7)) + 3)).tmod (o1.b.length : Int))).bind fun v9 =>
 chk (decide ((o1.b.length : Int) ≠ 0)) <|
 chk (decide (x2 ≠ 0)) <|
 some (((xor64 (w64 ((w64 ((w64 ((w64 ((w64 v7) * 131)) + (w64 ((w64 v9) * 1117)))) + (w64 ((w64 ((w64 (o1.p + 1)) - 1)) * 29)))) + (w64 ((w64 ((w64 ((w64 (o1.p + 1)) - 1)).tdiv (o1.b.length : Int))) * 53)))) (w64 ((w64 ((w64 ((w64 ((w64 ((w64 v7) * 131)) + (w64 ((w64 v9) * 1117)))) + (w64 ((w64 ((w64 (o1.p + 1)) - 1)) * 29)))) + (w64 ((w64 ((w64 ((w64 (o1.p + 1)) - 1)).tdiv (o1.b.length : Int))) * 53)))).tdiv 64))).tmod x2), (l15Rd.mk o1.b (w64 (o1.p + 1)))))))
def m_spec_l1Skip_l1 (fuel : Nat) (x1 : ByteArray) (g1 : Int) : Option Int :=
 match fuel with
 | 0 => none
 | fuel + 1 =>
 (bif (decide (g1 < (x1.size : Int))) then
 (bidx x1 g1).bind fun v4 =>
 (bif (decide (v4 = 32)) then
 m_spec_l1Skip_l1 fuel x1 (w64 (g1 + 1))
 else
 some g1)
 else
 some g1)
def m_spec_l1Skip (fuel : Nat) (x1 : ByteArray) (x2 : Int) : Option Int :=
 m_spec_l1Skip_l1 fuel x1 x2
def m_spec_l1Word_l1 (fuel : Nat) (x1 : ByteArray) (g1 : Int) : Option Int :=
 match fuel with
 | 0 => none
 | fuel + 1 =>
 (bif (decide (g1 < (x1.size : Int))) then
 (bidx x1 g1).bind fun v4 =>
 (bif (decide (v4 ≠ 32)) then
 (bidx x1 g1).bind fun v6 =>
 (bif (decide (v6 ≠ 40)) then
 (bidx x1 g1).bind fun v8 =>
 (bif (decide (v8 ≠ 41)) then
 (bidx x1 g1).bind fun v10 =>
 (bif (decide (v10 ≠ 123)) then
 m_spec_l1Word_l1 fuel x1 (w64 (g1 + 1))
 else
 some g1)
 else
 some g1)
 else
 some g1)
 else
 some g1)
 else
 some g1)
def m_spec_l1Word (fuel : Nat) (x1 : ByteArray) (x2 : Int) : Option Int :=
 m_spec_l1Word_l1 fuel x1 x2
mutual
def m_spec_l15Num_l1 (fuel : Nat) (v2 : Int) (v4 : ByteArray) (g11 : Int) (g12 : Int) : Option (Int × Bool) :=
 match fuel with
 | 0 => none
 | fuel + 1 =>
 (bif (decide (g12 < (v4.size : Int))) then
 (bidx v4 g12).bind fun v15 =>
 (bif (decide (v15 < 48)) then
 some (0, false)
 else
 (bidx v4 g12).bind fun v17 =>
 (bif (decide (57 < v17)) then
 some (0, false)
 else
 (bidx v4 g12).bind fun v19 =>
 m_spec_l15Num_l1 fuel v2 v4 (w64 ((w64 (g11 * 10)) + (w64 (w8 (v19 - 48))))) (w64 (g12 + 1))))
 else
 (bif (decide (v2 = 45)) then
 some ((w64 (0 - g11)), true)
 else
 some (g11, true)))
def m_spec_l15Num_l3 (fuel : Nat) (x1 : ByteArray) (v2 : Int) (g37 : Int) (g38 : Int) : Option (Int × Bool) :=
 match fuel with
 | 0 => none
 | fuel + 1 =>
 (bif (decide (g38 < (x1.size : Int))) then
 (bidx x1 g38).bind fun v41 =>
 (bif (decide (v41 < 48)) then
 some (0, false)
 else
 (bidx x1 g38).bind fun v43 =>
 (bif (decide (57 < v43)) then
 some (0, false)
 else
 (bidx x1 g38).bind fun v45 =>
 m_spec_l15Num_l3 fuel x1 v2 (w64 ((w64 (g37 * 10)) + (w64 (w8 (v45 - 48))))) (w64 (g38 + 1))))
 else
 (bif (decide (v2 = 45)) then
 some ((w64 (0 - g37)), true)
 else
 some (g37, true)))
def m_spec_l15Num_l5 (fuel : Nat) (x1 : ByteArray) (g62 : Int) (g63 : Int) : Option (Int × Bool) :=
 match fuel with
 | 0 => none
 | fuel + 1 =>
 (bif (decide (g63 < (x1.size : Int))) then
 (bidx x1 g63).bind fun v66 =>
 (bif (decide (v66 < 48)) then
 some (0, false)
 else
 (bidx x1 g63).bind fun v68 =>
 (bif (decide (57 < v68)) then
 some (0, false)
 else
 (bidx x1 g63).bind fun v70 =>
 m_spec_l15Num_l5 fuel x1 (w64 ((w64 (g62 * 10)) + (w64 (w8 (v70 - 48))))) (w64 (g63 + 1))))
 else
 some (g62, true))
end
def m_spec_l15Num (fuel : Nat) (x1 : ByteArray) : Option (Int × Bool) :=
 (bif (decide (0 < (x1.size : Int))) then
 (bidx x1 0).bind fun v2 =>
 (bif (decide (v2 = 45)) then
 (bsub x1 1 (x1.size : Int)).bind fun v4 =>
 (bif (decide ((v4.size : Int) = 0)) then
 some (0, false)
 else
 (bif (decide (17 < (v4.size : Int))) then
 some (0, false)
 else
 (bidx v4 0).bind fun v7 =>
 (bif (decide (v7 = 48)) then
 (bif (decide (1 < (v4.size : Int))) then
 some (0, false)
 else
 (bif (decide (v2 = 45)) then
 some (0, false)
 else
 m_spec_l15Num_l1 fuel v2 v4 0 0))
 else
 m_spec_l15Num_l1 fuel v2 v4 0 0)))
 else
 (bif (decide ((x1.size : Int) = 0)) then
 some (0, false)
 else
 (bif (decide (17 < (x1.size : Int))) then
 some (0, false)
 else
 (bidx x1 0).bind fun v33 =>
 (bif (decide (v33 = 48)) then
 (bif (decide (1 < (x1.size : Int))) then
 some (0, false)
 else
 (bif (decide (v2 = 45)) then
 some (0, false)
 else
 m_spec_l15Num_l3 fuel x1 v2 0 0))
 else
 m_spec_l15Num_l3 fuel x1 v2 0 0))))
 else
 (bif (decide ((x1.size : Int) = 0)) then
 some (0, false)
 else
 (bif (decide (17 < (x1.size : Int))) then
 some (0, false)
 else
 (bidx x1 0).bind fun v59 =>
 (bif (decide (v59 = 48)) then
 (bif (decide (1 < (x1.size : Int))) then
 some (0, false)
 else
 m_spec_l15Num_l5 fuel x1 0 0)
 else
 m_spec_l15Num_l5 fuel x1 0 0))))
def m_spec_l15Cut_l1 (fuel : Nat) (x1 : ByteArray) (x2 : Int) (g1 : (List ByteArray)) (g2 : Int) (g3 : Int) : Option (List ByteArray) :=
 match fuel with
 | 0 => none
 | fuel + 1 =>
 (bif (decide (g3 ≤ (x1.size : Int))) then
 (bif (decide (g3 = (x1.size : Int))) then
 (bsub x1 g2 g3).bind fun v7 =>
 chk (decide ((g1.length + [v7].length) * 16 ≤ 140737488355328)) <|
 m_spec_l15Cut_l1 fuel x1 x2 (g1 ++ [v7]) (w64 (g3 + 1)) (w64 (g3 + 1))
 else
 (bidx x1 g3).bind fun v9 =>
 (bif (decide (v9 = x2)) then
 (bsub x1 g2 g3).bind fun v11 =>
 chk (decide ((g1.length + [v11].length) * 16 ≤ 140737488355328)) <|
 m_spec_l15Cut_l1 fuel x1 x2 (g1 ++ [v11]) (w64 (g3 + 1)) (w64 (g3 + 1))
 else
 m_spec_l15Cut_l1 fuel x1 x2 g1 g2 (w64 (g3 + 1))))
 else
 some g1)
def m_spec_l15Cut (fuel : Nat) (x1 : ByteArray) (x2 : Int) : Option (List ByteArray) :=
 m_spec_l15Cut_l1 fuel x1 x2 ([] : List ByteArray) 0 0
mutual
def m_spec_l1Sets_l2 (fuel : Nat) (g4 : Int) (v11 : (List ByteArray)) (g12 : (List Int)) (g13 : Int) : Option ((List Int) × Int) :=
 match fuel with
 | 0 => none
 | fuel + 1 =>
 (bif (decide (g13 < (v11.length : Int))) then
 (bif (decide (g13 ≤ 24)) then
 (idx v11 g13).bind fun v17 =>
 (m_spec_l15Num fuel v17).bind fun v18 =>
 (bif (!v18.2) then
 some (g12, (-1))
 else
 chk (decide ((g12.length + [v18.1].length) * 8 ≤ 140737488355328)) <|
 m_spec_l1Sets_l2 fuel g4 v11 (g12 ++ [v18.1]) (w64 (g13 + 1)))
 else
 some (g12, (w64 (g4 + 1))))
 else
 some (g12, (w64 (g4 + 1))))
def m_spec_l1Sets_l1 (fuel : Nat) (x1 : ByteArray) (x2 : Int) (g4 : Int) : Option ((List Int) × Int) :=
 match fuel with
 | 0 => none
 | fuel + 1 =>
 (bif (decide (g4 < (x1.size : Int))) then
 (bidx x1 g4).bind fun v7 =>
 (bif (decide (v7 ≠ 125)) then
 m_spec_l1Sets_l1 fuel x1 x2 (w64 (g4 + 1))
 else
 (bif (decide (g4 = (x1.size : Int))) then
 some (([] : List Int), (-1))
 else
 (bsub x1 (w64 (x2 + 1)) g4).bind fun v10 =>
 (m_spec_l15Cut fuel v10 44).bind fun v11 =>
 m_spec_l1Sets_l2 fuel g4 v11 ([] : List Int) 0))
 else
 (bif (decide (g4 = (x1.size : Int))) then
 some (([] : List Int), (-1))
 else
 (bsub x1 (w64 (x2 + 1)) g4).bind fun v22 =>
 (m_spec_l15Cut fuel v22 44).bind fun v23 =>
 m_spec_l1Sets_l2 fuel g4 v23 ([] : List Int) 0))
end
def m_spec_l1Sets (fuel : Nat) (x1 : ByteArray) (x2 : Int) : Option ((List Int) × Int) :=
 (bif (decide ((x1.size : Int) ≤ x2)) then
 some (([] : List Int), x2)
 else
 (bidx x1 x2).bind fun v2 =>
 (bif (decide (v2 ≠ 123)) then
 some (([] : List Int), x2)
 else
 m_spec_l1Sets_l1 fuel x1 x2 x2))
def m_spec_l1Atom (fuel : Nat) (x1 : ByteArray) (x2 : Int) : Option (Form × Int) :=
 (m_spec_l1Word fuel x1 x2).bind fun v1 =>
 (bsub x1 x2 v1).bind fun v2 =>
 (m_spec_l15Num fuel v2).bind fun v3 =>
 (bif v3.2 then
 some ((Form.mk 2 (⟨#[]⟩ : ByteArray) v3.1 ([] : List Int) ([] : List Form)), v1)
 else
 (bif (decide (v2 = (⟨#[]⟩ : ByteArray))) then
 some ((Form.mk 0 (⟨#[]⟩ : ByteArray) 0 ([] : List Int) ([] : List Form)), (-1))
 else
 (m_spec_l1Sets fuel x1 v1).bind fun v6 =>
 some ((Form.mk 1 v2 0 v6.1 ([] : List Form)), v6.2)))
mutual
def m_spec_l1Read (fuel : Nat) (x1 : ByteArray) (x2 : Int) (x3 : Int) : Option (Form × Int) :=
 match fuel with
 | 0 => none
 | fuel + 1 =>
 (m_spec_l1Skip fuel x1 x2).bind fun v1 =>
 (bif (decide ((x1.size : Int) ≤ v1)) then
 some ((Form.mk 0 (⟨#[]⟩ : ByteArray) 0 ([] : List Int) ([] : List Form)), (-1))
 else
 (bif (decide (x3 = 0)) then
 some ((Form.mk 0 (⟨#[]⟩ : ByteArray) 0 ([] : List Int) ([] : List Form)), (-1))
 else
 (bidx x1 v1).bind fun v4 =>
 (bif (decide (v4 ≠ 40)) then
 (m_spec_l1Atom fuel x1 v1).bind fun v6 =>
 some (v6.1, v6.2)
 else
 (m_spec_l1Skip fuel x1 (w64 (v1 + 1))).bind fun v7 =>
 m_spec_l1Read_l1 fuel x1 x3 v7 ([] : List Form))))
def m_spec_l1Read_l1 (fuel : Nat) (x1 : ByteArray) (x3 : Int) (g8 : Int) (g9 : (List Form)) : Option (Form × Int) :=
 match fuel with
 | 0 => none
 | fuel + 1 =>
 (bif (decide (g8 < (x1.size : Int))) then
 (bidx x1 g8).bind fun v12 =>
 (bif (decide (v12 ≠ 41)) then
 (bif (decide ((g9.length : Int) < 400)) then
 (m_spec_l1Read fuel x1 g8 (w64 (x3 - 1))).bind fun v15 =>
 (bif (decide (v15.2 < 0)) then
 some ((Form.mk 3 (⟨#[]⟩ : ByteArray) 0 ([] : List Int) g9), (-1))
 else
 chk (decide ((g9.length + [v15.1].length) * 80 ≤ 140737488355328)) <|
 (m_spec_l1Skip fuel x1 v15.2).bind fun v18 =>
 m_spec_l1Read_l1 fuel x1 x3 v18 (g9 ++ [v15.1]))
 else
 (bif (decide ((x1.size : Int) ≤ g8)) then
 some ((Form.mk 3 (⟨#[]⟩ : ByteArray) 0 ([] : List Int) g9), (-1))
 else
 (bidx x1 g8).bind fun v20 =>
 (bif (decide (v20 ≠ 41)) then
 some ((Form.mk 3 (⟨#[]⟩ : ByteArray) 0 ([] : List Int) g9), (-1))
 else
 some ((Form.mk 3 (⟨#[]⟩ : ByteArray) 0 ([] : List Int) g9), (w64 (g8 + 1))))))
 else
 (bif (decide ((x1.size : Int) ≤ g8)) then
 some ((Form.mk 3 (⟨#[]⟩ : ByteArray) 0 ([] : List Int) g9), (-1))
 else
 (bidx x1 g8).bind fun v23 =>
 (bif (decide (v23 ≠ 41)) then
 some ((Form.mk 3 (⟨#[]⟩ : ByteArray) 0 ([] : List Int) g9), (-1))
 else
 some ((Form.mk 3 (⟨#[]⟩ : ByteArray) 0 ([] : List Int) g9), (w64 (g8 + 1))))))
 else
 (bif (decide ((x1.size : Int) ≤ g8)) then
 some ((Form.mk 3 (⟨#[]⟩ : ByteArray) 0 ([] : List Int) g9), (-1))
 else
 (bidx x1 g8).bind fun v26 =>
 (bif (decide (v26 ≠ 41)) then
 some ((Form.mk 3 (⟨#[]⟩ : ByteArray) 0 ([] : List Int) g9), (-1))
 else
 some ((Form.mk 3 (⟨#[]⟩ : ByteArray) 0 ([] : List Int) g9), (w64 (g8 + 1))))))
end
def m_spec_l1Letter (fuel : Nat) (x1 : Int) (x2 : Bool) : Option Bool :=
 (bif (decide (97 ≤ x1)) then
 (bif (decide (x1 ≤ 122)) then
 some true
 else
 (bif (decide (x1 = 42)) then
 some true
 else
 (bif (decide (x1 = 63)) then
 some true
 else
 (bif (decide (x1 = 61)) then
 some true
 else
 (bif (decide (x1 = 43)) then
 some true
 else
 (bif (decide (x1 = 60)) then
 some true
 else
 (bif (!x2) then
 (bif (decide (48 ≤ x1)) then
 (bif (decide (x1 ≤ 57)) then
 some true
 else
 some (decide (x1 = 45)))
 else
 some (decide (x1 = 45)))
 else
 some false)))))))
 else
 (bif (decide (x1 = 42)) then
 some true
 else
 (bif (decide (x1 = 63)) then
 some true
 else
 (bif (decide (x1 = 61)) then
 some true
 else
 (bif (decide (x1 = 43)) then
 some true
 else
 (bif (decide (x1 = 60)) then
 some true
 else
 (bif (!x2) then
 (bif (decide (48 ≤ x1)) then
 (bif (decide (x1 ≤ 57)) then
 some true
 else
 some (decide (x1 = 45)))
 else
 some (decide (x1 = 45)))
 else
 some false)))))))
def m_spec_NameValid_l1 (fuel : Nat) (x1 : ByteArray) (g3 : Int) : Option Bool :=
 match fuel with
 | 0 => none
 | fuel + 1 =>
 (bif (decide (g3 < (x1.size : Int))) then
 (bif (decide (g3 ≤ 12)) then
 (bidx x1 g3).bind fun v7 =>
 (m_spec_l1Letter fuel v7 (decide (g3 = 0))).bind fun v8 =>
 (bif (!v8) then
 some false
 else
 m_spec_NameValid_l1 fuel x1 (w64 (g3 + 1)))
 else
 (bif (decide (1 ≤ (x1.size : Int))) then
 some (decide ((x1.size : Int) ≤ 12))
 else
 some false))
 else
 (bif (decide (1 ≤ (x1.size : Int))) then
 some (decide ((x1.size : Int) ≤ 12))
 else
 some false))
def m_spec_NameValid (fuel : Nat) (x1 : ByteArray) : Option Bool :=
 (bif (decide (x1 = (⟨#[46, 46, 46]⟩ : ByteArray))) then
 some true
 else
 (bif (decide (x1 = (⟨#[95]⟩ : ByteArray))) then
 some true
 else
 m_spec_NameValid_l1 fuel x1 0))
def m_spec_l1Scopes_l1 (fuel : Nat) (x1 : (List Int)) (g1 : Int) : Option Bool :=
 match fuel with
 | 0 => none
 | fuel + 1 =>
 (bif (decide (g1 < (x1.length : Int))) then
 (bif (decide (g1 ≤ 24)) then
 (idx x1 g1).bind fun v5 =>
 (bif (decide (v5 < 1)) then
 some false
 else
 (idx x1 g1).bind fun v7 =>
 (bif (decide (99 < v7)) then
 some false
 else
 (bif (decide (0 < g1)) then
 (idx x1 g1).bind fun v10 =>
 (idx x1 (w64 (g1 - 1))).bind fun v11 =>
 (bif (decide (v10 ≤ v11)) then
 some false
 else
 m_spec_l1Scopes_l1 fuel x1 (w64 (g1 + 1)))
 else
 m_spec_l1Scopes_l1 fuel x1 (w64 (g1 + 1)))))
 else
 some (decide ((x1.length : Int) ≤ 24)))
 else
 some (decide ((x1.length : Int) ≤ 24)))
def m_spec_l1Scopes (fuel : Nat) (x1 : (List Int)) : Option Bool :=
 m_spec_l1Scopes_l1 fuel x1 0
mutual
def m_spec_l1Is (fuel : Nat) (x1 : Form) (x2 : Int) : Option Bool :=
 match fuel with
 | 0 => none
 | fuel + 1 =>
 (bif (decide (x2 = 0)) then
 some false
 else
 (bif (decide (x1.kind = 1)) then
 (m_spec_NameValid fuel x1.name).bind fun v3 =>
 (bif v3 then
 (bif (decide (x1.n = 0)) then
 (m_spec_l1Scopes fuel x1.scopes).bind fun v6 =>
 (bif v6 then
 some (decide ((x1.kids.length : Int) = 0))
 else
 some false)
 else
 some false)
 else
 some false)
 else
 (bif (decide (x1.kind = 2)) then
 (bif (decide (x1.name = (⟨#[]⟩ : ByteArray))) then
 (bif (decide (0 ≤ x1.n)) then
 (bif (decide (x1.n ≤ 999)) then
 (bif (decide ((x1.scopes.length : Int) = 0)) then
 some (decide ((x1.kids.length : Int) = 0))
 else
 some false)
 else
 some false)
 else
 some false)
 else
 some false)
 else
 (bif (decide (x1.kind ≠ 3)) then
 some false
 else
 (bif (decide (x1.name ≠ (⟨#[]⟩ : ByteArray))) then
 some false
 else
 (bif (decide (x1.n ≠ 0)) then
 some false
 else
 (bif (decide ((x1.scopes.length : Int) ≠ 0)) then
 some false
 else
 m_spec_l1Is_l1 fuel x1 x2 0)))))))
def m_spec_l1Is_l1 (fuel : Nat) (x1 : Form) (x2 : Int) (g17 : Int) : Option Bool :=
 match fuel with
 | 0 => none
 | fuel + 1 =>
 (bif (decide (g17 < (x1.kids.length : Int))) then
 (idx x1.kids g17).bind fun v21 =>
 (m_spec_l1Is fuel v21 (w64 (x2 - 1))).bind fun v22 =>
 (bif (!v22) then
 some false
 else
 m_spec_l1Is_l1 fuel x1 x2 (g17 + 1))
 else
 some true)
end
mutual
def m_spec_l1Count (fuel : Nat) (x1 : Form) : Option Int :=
 match fuel with
 | 0 => none
 | fuel + 1 =>
 m_spec_l1Count_l1 fuel x1 1 0
def m_spec_l1Count_l1 (fuel : Nat) (x1 : Form) (g1 : Int) (g2 : Int) : Option Int :=
 match fuel with
 | 0 => none
 | fuel + 1 =>
 (bif (decide (g2 < (x1.kids.length : Int))) then
 (idx x1.kids g2).bind fun v6 =>
 (m_spec_l1Count fuel v6).bind fun v7 =>
 m_spec_l1Count_l1 fuel x1 (w64 (g1 + v7)) (g2 + 1)
 else
 some g1)
end
def m_spec_FormValid (fuel : Nat) (x1 : Form) : Option Bool :=
 (m_spec_l1Is fuel x1 40).bind fun v1 =>
 (bif v1 then
 (m_spec_l1Count fuel x1).bind fun v3 =>
 some (decide (v3 ≤ 400))
 else
 some false)
def m_spec_ParseForm (fuel : Nat) (x1 : ByteArray) : Option (Form × Bool) :=
 (m_spec_l1Read fuel x1 0 40).bind fun v1 =>
 (bif (decide (v1.2 < 0)) then
 some ((Form.mk 0 (⟨#[]⟩ : ByteArray) 0 ([] : List Int) ([] : List Form)), false)
 else
 (m_spec_l1Skip fuel x1 v1.2).bind fun v3 =>
 (bif (decide (v3 ≠ (x1.size : Int))) then
 some ((Form.mk 0 (⟨#[]⟩ : ByteArray) 0 ([] : List Int) ([] : List Form)), false)
 else
 (m_spec_FormValid fuel v1.1).bind fun v5 =>
 (bif (!v5) then
 some ((Form.mk 0 (⟨#[]⟩ : ByteArray) 0 ([] : List Int) ([] : List Form)), false)
 else
 some (v1.1, true))))
def m_spec_l1Parse (fuel : Nat) (x1 : ByteArray) : Option Form :=
 (m_spec_ParseForm fuel x1).bind fun v1 =>
 some v1.1
def m_spec_l1Name (fuel : Nat) (x1 : ByteArray) : Option Form :=
 some (Form.mk 1 x1 0 ([] : List Int) ([] : List Form))
mutual
def m_spec_l1Copy (fuel : Nat) (x1 : Form) : Option Form :=
 match fuel with
 | 0 => none
 | fuel + 1 =>
 chk (decide ((([] : List Int).length + x1.scopes.length) * 8 ≤ 140737488355328)) <|
 m_spec_l1Copy_l1 fuel x1 0 ([] : List Form)
def m_spec_l1Copy_l1 (fuel : Nat) (x1 : Form) (g2 : Int) (g3 : (List Form)) : Option Form :=
 match fuel with
 | 0 => none
 | fuel + 1 =>
 (bif (decide (g2 < (x1.kids.length : Int))) then
 (idx x1.kids g2).bind fun v7 =>
 (m_spec_l1Copy fuel v7).bind fun v8 =>
 chk (decide ((g3.length + [v8].length) * 80 ≤ 140737488355328)) <|
 m_spec_l1Copy_l1 fuel x1 (g2 + 1) (g3 ++ [v8])
 else
 some (Form.mk x1.kind x1.name x1.n (([] : List Int) ++ x1.scopes) g3))
end
def m_spec_l15Rd_num (fuel : Nat) (o1 : l15Rd) (x2 : (List Int)) : Option (Int × l15Rd) :=
 (m_spec_l15Rd_pick fuel o1 (x2.length : Int)).bind fun v1 =>
 (idx x2 v1.1).bind fun v2 =>
 some (v2, v1.2)
def m_spec_l15Rd_of (fuel : Nat) (o1 : l15Rd) (x2 : (List ByteArray)) : Option (ByteArray × l15Rd) :=
 (m_spec_l15Rd_pick fuel o1 (x2.length : Int)).bind fun v1 =>
 (idx x2 v1.1).bind fun v2 =>
 some (v2, v1.2)
def m_spec_l1Mutate (fuel : Nat) (o1 : l15Rd) (x2 : Form) : Option (Form × l15Rd) :=
 match fuel with
 | 0 => none
 | fuel + 1 =>
 (m_spec_l1Copy fuel x2).bind fun v1 =>
 (bif (decide (0 < (v1.kids.length : Int))) then
 (m_spec_l15Rd_pick fuel o1 2).bind fun v3 =>
 (bif (decide (0 < v3.1)) then
 (m_spec_l15Rd_pick fuel v3.2 (v1.kids.length : Int)).bind fun v5 =>
 (idx v1.kids v5.1).bind fun v6 =>
 (m_spec_l1Mutate fuel v5.2 v6).bind fun v7 =>
 (idx v1.kids v5.1).bind fun v8 =>
 some ((Form.mk v1.kind v1.name v1.n v1.scopes (v1.kids.set v5.1.toNat v7.1)), v7.2)
 else
 (m_spec_l15Rd_pick fuel v3.2 14).bind fun v9 =>
 (bif (decide (v9.1 = 0)) then
 (m_spec_l15Rd_num fuel v9.2 [0, 4, 1, 3]).bind fun v11 =>
 some ((Form.mk v11.1 v1.name v1.n v1.scopes v1.kids), v11.2)
 else
 (bif (decide (v9.1 = 1)) then
 (m_spec_l15Rd_of fuel v9.2 [(⟨#[]⟩ : ByteArray), (⟨#[65]⟩ : ByteArray), (⟨#[116, 111, 111, 108, 111, 110, 103, 97, 110, 97, 109, 101, 49]⟩ : ByteArray), (⟨#[122]⟩ : ByteArray), (⟨#[120, 32, 121]⟩ : ByteArray)]).bind fun v13 =>
 some ((Form.mk v1.kind v13.1 v1.n v1.scopes v1.kids), v13.2)
 else
 (bif (decide (v9.1 = 2)) then
 (m_spec_l15Rd_num fuel v9.2 [1000, (-1), 5]).bind fun v15 =>
 some ((Form.mk v1.kind v1.name v15.1 v1.scopes v1.kids), v15.2)
 else
 (bif (decide (v9.1 = 3)) then
 (m_spec_l15Rd_num fuel v9.2 [0, 100, 1, 50]).bind fun v17 =>
 chk (decide ((v1.scopes.length + [v17.1].length) * 8 ≤ 140737488355328)) <|
 some ((Form.mk v1.kind v1.name v1.n (v1.scopes ++ [v17.1]) v1.kids), v17.2)
 else
 some (v1, v9.2))))))
 else
 (m_spec_l15Rd_pick fuel o1 14).bind fun v19 =>
 (bif (decide (v19.1 = 0)) then
 (m_spec_l15Rd_num fuel v19.2 [0, 4, 1, 3]).bind fun v21 =>
 some ((Form.mk v21.1 v1.name v1.n v1.scopes v1.kids), v21.2)
 else
 (bif (decide (v19.1 = 1)) then
 (m_spec_l15Rd_of fuel v19.2 [(⟨#[]⟩ : ByteArray), (⟨#[65]⟩ : ByteArray), (⟨#[116, 111, 111, 108, 111, 110, 103, 97, 110, 97, 109, 101, 49]⟩ : ByteArray), (⟨#[122]⟩ : ByteArray), (⟨#[120, 32, 121]⟩ : ByteArray)]).bind fun v23 =>
 some ((Form.mk v1.kind v23.1 v1.n v1.scopes v1.kids), v23.2)
 else
 (bif (decide (v19.1 = 2)) then
 (m_spec_l15Rd_num fuel v19.2 [1000, (-1), 5]).bind fun v25 =>
 some ((Form.mk v1.kind v1.name v25.1 v1.scopes v1.kids), v25.2)
 else
 (bif (decide (v19.1 = 3)) then
 (m_spec_l15Rd_num fuel v19.2 [0, 100, 1, 50]).bind fun v27 =>
 chk (decide ((v1.scopes.length + [v27.1].length) * 8 ≤ 140737488355328)) <|
 some ((Form.mk v1.kind v1.name v1.n (v1.scopes ++ [v27.1]) v1.kids), v27.2)
 else
 some (v1, v19.2))))))
mutual
def m_spec_l1Dress (fuel : Nat) (o1 : l15Rd) (x2 : Form) : Option (Form × l15Rd) :=
 match fuel with
 | 0 => none
 | fuel + 1 =>
 (m_spec_l1Copy fuel x2).bind fun v1 =>
 (bif (decide (x2.kind = 1)) then
 (m_spec_l15Rd_pick fuel o1 ([([] : List Int), [1], [2], [1, 2], [1, 3], [1, 2, 3], [99]].length : Int)).bind fun v3 =>
 (idx [([] : List Int), [1], [2], [1, 2], [1, 3], [1, 2, 3], [99]] v3.1).bind fun v4 =>
 chk (decide ((([] : List Int).length + v4.length) * 8 ≤ 140737488355328)) <|
 m_spec_l1Dress_l1 fuel v1 v4 0 v3.2.b v3.2.p v1.kids
 else
 m_spec_l1Dress_l2 fuel v1 0 o1.b o1.p v1.kids)
def m_spec_l1Dress_l1 (fuel : Nat) (v1 : Form) (v4 : (List Int)) (g6 : Int) (g7 : (List Int)) (g8 : Int) (g9 : (List Form)) : Option (Form × l15Rd) :=
 match fuel with
 | 0 => none
 | fuel + 1 =>
 (bif (decide (g6 < (g9.length : Int))) then
 (idx g9 g6).bind fun v13 =>
 (m_spec_l1Dress fuel (l15Rd.mk g7 g8) v13).bind fun v14 =>
 (idx g9 g6).bind fun v15 =>
 m_spec_l1Dress_l1 fuel v1 v4 (g6 + 1) v14.2.b v14.2.p (g9.set g6.toNat v14.1)
 else
 some ((Form.mk v1.kind v1.name v1.n (([] : List Int) ++ v4) g9), (l15Rd.mk g7 g8)))
def m_spec_l1Dress_l2 (fuel : Nat) (v1 : Form) (g16 : Int) (g17 : (List Int)) (g18 : Int) (g19 : (List Form)) : Option (Form × l15Rd) :=
 match fuel with
 | 0 => none
 | fuel + 1 =>
 (bif (decide (g16 < (g19.length : Int))) then
 (idx g19 g16).bind fun v23 =>
 (m_spec_l1Dress fuel (l15Rd.mk g17 g18) v23).bind fun v24 =>
 (idx g19 g16).bind fun v25 =>
 m_spec_l1Dress_l2 fuel v1 (g16 + 1) v24.2.b v24.2.p (g19.set g16.toNat v24.1)
 else
 some ((Form.mk v1.kind v1.name v1.n v1.scopes g19), (l15Rd.mk g17 g18)))
end
def m_spec_l4Case (fuel : Nat) (x1 : (List Int)) : Option (Form × (List Form) × Form) :=
 (m_spec_l15Open fuel x1).bind fun v1 =>
 (m_spec_l4Texts fuel).bind fun v2 =>
 (m_spec_l15Rd_pick fuel v1 (v2.length : Int)).bind fun v3 =>
 (idx v2 v3.1).bind fun v4 =>
 (idx v4 0).bind fun v5 =>
 (m_spec_l1Parse fuel v5).bind fun v6 =>
 (idx v2 v3.1).bind fun v7 =>
 (idx v7 1).bind fun v8 =>
 (m_spec_l1Parse fuel v8).bind fun v9 =>
 (m_spec_l1Name fuel (⟨#[101, 108, 115, 101]⟩ : ByteArray)).bind fun v10 =>
 (m_spec_l15Rd_pick fuel v3.2 8).bind fun v11 =>
 (bif (decide (v11.1 = 0)) then
 (m_spec_l1Mutate fuel v11.2 v9).bind fun v13 =>
 (m_spec_l1Mutate fuel v13.2 v13.1).bind fun v14 =>
 some (v6, [v10], v14.1)
 else
 (bif (decide (v11.1 = 1)) then
 (m_spec_l1Mutate fuel v11.2 v6).bind fun v16 =>
 (m_spec_l1Mutate fuel v16.2 v16.1).bind fun v17 =>
 some (v17.1, [v10], v9)
 else
 (bif (decide (v11.1 = 2)) then
 (m_spec_l1Dress fuel v11.2 v9).bind fun v19 =>
 some (v6, [v10], v19.1)
 else
 (bif (decide (v11.1 = 3)) then
 some (v6, ([] : List Form), v9)
 else
 (bif (decide (v11.1 = 4)) then
 (m_spec_l15Rd_pick fuel v11.2 (v2.length : Int)).bind fun v22 =>
 (idx v2 v22.1).bind fun v23 =>
 (idx v23 1).bind fun v24 =>
 (m_spec_l1Parse fuel v24).bind fun v25 =>
 some (v6, [v10], v25)
 else
 some (v6, [v10], v9))))))
def m_spec_DrawPatternValid (fuel : Nat) (x1 : (List Int)) : Option (Form × (List Form)) :=
 (m_spec_l4Case fuel x1).bind fun v1 =>
 (m_spec_l15Open fuel x1).bind fun v2 =>
 (m_spec_l15Rd_pick fuel v2 12).bind fun v3 =>
 (bif (decide (v3.1 = 0)) then
 (m_spec_l15Rd_of fuel v3.2 [(⟨#[40, 46, 46, 46, 32, 97, 41]⟩ : ByteArray), (⟨#[40, 97, 32, 46, 46, 46, 32, 98, 32, 46, 46, 46, 41]⟩ : ByteArray), (⟨#[40, 97, 32, 97, 41]⟩ : ByteArray), (⟨#[46, 46, 46]⟩ : ByteArray), (⟨#[40, 97, 32, 46, 46, 46, 32, 46, 46, 46, 41]⟩ : ByteArray), (⟨#[40, 40, 40, 40, 40, 97, 32, 46, 46, 46, 41, 32, 46, 46, 46, 41, 32, 46, 46, 46, 41, 32, 46, 46, 46, 41, 41]⟩ : ByteArray)]).bind fun v5 =>
 (m_spec_l1Parse fuel v5.1).bind fun v6 =>
 some (v6, v1.2.1)
 else
 (bif (decide (v3.1 = 1)) then
 (m_spec_l15Rd_of fuel v3.2 [(⟨#[95]⟩ : ByteArray), (⟨#[101, 108, 115, 101]⟩ : ByteArray), (⟨#[97]⟩ : ByteArray)]).bind fun v8 =>
 (m_spec_l1Name fuel v8.1).bind fun v9 =>
 chk (decide ((v1.2.1.length + [v9].length) * 80 ≤ 140737488355328)) <|
 some (v1.1, (v1.2.1 ++ [v9]))
 else
 some (v1.1, v1.2.1)))
def m_spec_DrawPatternVars (fuel : Nat) (x1 : (List Int)) : Option (Form × (List Form)) :=
 (m_spec_DrawPatternValid fuel x1).bind fun v1 =>
 some (v1.1, v1.2)
def m_strings_IndexByte (fuel : Nat) (x1 : ByteArray) (x2 : Int) : Option Int :=
 some (Lib.indexByte x1.data.toList x2.toNat.toUInt8)
def m_impl_within (fuel : Nat) (x1 : Int) (x2 : Int) (x3 : Int) : Option Bool :=
 (bif (decide (x2 ≤ x1)) then
 some (decide (x1 ≤ x3))
 else
 some false)
def m_impl_NameValid_l1 (fuel : Nat) (x1 : ByteArray) (g3 : Int) : Option Bool :=
 match fuel with
 | 0 => none
 | fuel + 1 =>
 (bif (decide (g3 < (x1.size : Int))) then
 (bidx x1 g3).bind fun v6 =>
 (bif (decide (97 ≤ v6)) then
 (bif (decide (v6 ≤ 122)) then
 m_impl_NameValid_l1 fuel x1 (w64 (g3 + 1))
 else
 (m_strings_IndexByte fuel (⟨#[42, 63, 61, 43, 60]⟩ : ByteArray) v6).bind fun v9 =>
 (bif (decide (0 ≤ v9)) then
 m_impl_NameValid_l1 fuel x1 (w64 (g3 + 1))
 else
 (bif (decide (0 < g3)) then
 (bif (decide (48 ≤ v6)) then
 (bif (decide (v6 ≤ 57)) then
 m_impl_NameValid_l1 fuel x1 (w64 (g3 + 1))
 else
 (bif (decide (v6 = 45)) then
 m_impl_NameValid_l1 fuel x1 (w64 (g3 + 1))
 else
 some false))
 else
 (bif (decide (v6 = 45)) then
 m_impl_NameValid_l1 fuel x1 (w64 (g3 + 1))
 else
 some false))
 else
 some false)))
 else
 (m_strings_IndexByte fuel (⟨#[42, 63, 61, 43, 60]⟩ : ByteArray) v6).bind fun v16 =>
 (bif (decide (0 ≤ v16)) then
 m_impl_NameValid_l1 fuel x1 (w64 (g3 + 1))
 else
 (bif (decide (0 < g3)) then
 (bif (decide (48 ≤ v6)) then
 (bif (decide (v6 ≤ 57)) then
 m_impl_NameValid_l1 fuel x1 (w64 (g3 + 1))
 else
 (bif (decide (v6 = 45)) then
 m_impl_NameValid_l1 fuel x1 (w64 (g3 + 1))
 else
 some false))
 else
 (bif (decide (v6 = 45)) then
 m_impl_NameValid_l1 fuel x1 (w64 (g3 + 1))
 else
 some false))
 else
 some false)))
 else
 (m_impl_within fuel (x1.size : Int) 1 12).bind fun v23 =>
 some v23)
def m_impl_NameValid (fuel : Nat) (x1 : ByteArray) : Option Bool :=
 (bif (decide (x1 = (⟨#[46, 46, 46]⟩ : ByteArray))) then
 some true
 else
 (bif (decide (x1 = (⟨#[95]⟩ : ByteArray))) then
 some true
 else
 m_impl_NameValid_l1 fuel x1 0))
def m_impl_scopesOk_l1 (fuel : Nat) (x1 : (List Int)) (g1 : Int) : Option Bool :=
 match fuel with
 | 0 => none
 | fuel + 1 =>
 (bif (decide (g1 < (x1.length : Int))) then
 (idx x1 g1).bind fun v5 =>
 (m_impl_within fuel v5 1 99).bind fun v6 =>
 (bif (!v6) then
 some false
 else
 (bif (decide (0 < g1)) then
 (idx x1 (w64 (g1 - 1))).bind fun v9 =>
 (bif (decide (v5 ≤ v9)) then
 some false
 else
 m_impl_scopesOk_l1 fuel x1 (g1 + 1))
 else
 m_impl_scopesOk_l1 fuel x1 (g1 + 1)))
 else
 some (decide ((x1.length : Int) ≤ 24)))
def m_impl_scopesOk (fuel : Nat) (x1 : (List Int)) : Option Bool :=
 m_impl_scopesOk_l1 fuel x1 0
mutual
def m_impl_formOk (fuel : Nat) (x1 : Form) (x2 : Int) (o1 : Int) : Option (Bool × Int) :=
 match fuel with
 | 0 => none
 | fuel + 1 =>
 (bif (decide ((w64 (o1 - 1)) < 0)) then
 some (false, (w64 (o1 - 1)))
 else
 (bif (decide (40 < x2)) then
 some (false, (w64 (o1 - 1)))
 else
 (bif (decide (x1.kind = 1)) then
 (m_impl_NameValid fuel x1.name).bind fun v4 =>
 (bif v4 then
 (bif (decide (x1.n = 0)) then
 (m_impl_scopesOk fuel x1.scopes).bind fun v7 =>
 (bif v7 then
 some ((decide ((x1.kids.length : Int) = 0)), (w64 (o1 - 1)))
 else
 some (false, (w64 (o1 - 1))))
 else
 some (false, (w64 (o1 - 1))))
 else
 some (false, (w64 (o1 - 1))))
 else
 (bif (decide (x1.kind = 2)) then
 (bif (decide (x1.name = (⟨#[]⟩ : ByteArray))) then
 (m_impl_within fuel x1.n 0 999).bind fun v11 =>
 (bif v11 then
 (bif (decide ((x1.scopes.length : Int) = 0)) then
 some ((decide ((x1.kids.length : Int) = 0)), (w64 (o1 - 1)))
 else
 some (false, (w64 (o1 - 1))))
 else
 some (false, (w64 (o1 - 1))))
 else
 some (false, (w64 (o1 - 1))))
 else
 (bif (decide (x1.kind = 3)) then
 (bif (decide (x1.name ≠ (⟨#[]⟩ : ByteArray))) then
 some (false, (w64 (o1 - 1)))
 else
 (bif (decide (x1.n ≠ 0)) then
 some (false, (w64 (o1 - 1)))
 else
 (bif (decide (0 < (x1.scopes.length : Int))) then
 some (false, (w64 (o1 - 1)))
 else
 m_impl_formOk_l1 fuel x1 x2 0 (w64 (o1 - 1)))))
 else
 some (false, (w64 (o1 - 1))))))))
def m_impl_formOk_l1 (fuel : Nat) (x1 : Form) (x2 : Int) (g19 : Int) (g20 : Int) : Option (Bool × Int) :=
 match fuel with
 | 0 => none
 | fuel + 1 =>
 (bif (decide (g19 < (x1.kids.length : Int))) then
 (idx x1.kids g19).bind fun v24 =>
 (m_impl_formOk fuel v24 (w64 (x2 + 1)) g20).bind fun v25 =>
 (bif (!v25.1) then
 some (false, v25.2)
 else
 m_impl_formOk_l1 fuel x1 x2 (g19 + 1) v25.2)
 else
 some (true, g20))
end
def m_impl_FormValid (fuel : Nat) (x1 : Form) : Option Bool :=
 (m_impl_formOk fuel x1 1 400).bind fun v1 =>
 some v1.1
def m_impl_isName (fuel : Nat) (x1 : Form) : Option Bool :=
 (bif (decide (x1.kind = 1)) then
 (m_impl_FormValid fuel x1).bind fun v2 =>
 some v2
 else
 some false)
def m_slices_Equal_int_l1 (fuel : Nat) (x1 : (List Int)) (x2 : (List Int)) (g2 : Int) : Option Bool :=
 match fuel with
 | 0 => none
 | fuel + 1 =>
 (bif (decide (g2 < (x1.length : Int))) then
 (idx x1 g2).bind fun v6 =>
 (idx x2 g2).bind fun v7 =>
 (bif (decide (v6 ≠ v7)) then
 some false
 else
 m_slices_Equal_int_l1 fuel x1 x2 (g2 + 1))
 else
 some true)
def m_slices_Equal_int (fuel : Nat) (x1 : (List Int)) (x2 : (List Int)) : Option Bool :=
 (bif (decide ((x1.length : Int) ≠ (x2.length : Int))) then
 some false
 else
 m_slices_Equal_int_l1 fuel x1 x2 0)
mutual
def m_impl_FormSame (fuel : Nat) (x1 : Form) (x2 : Form) : Option Bool :=
 match fuel with
 | 0 => none
 | fuel + 1 =>
 (bif (decide (x1.kind = x2.kind)) then
 (bif (decide (x1.name = x2.name)) then
 (bif (decide (x1.n = x2.n)) then
 (m_slices_Equal_int fuel x1.scopes x2.scopes).bind fun v4 =>
 (bif v4 then
 (m_slices_EqualFunc_Form_FormSame fuel x1.kids x2.kids).bind fun v6 =>
 some v6
 else
 some false)
 else
 some false)
 else
 some false)
 else
 some false)
def m_slices_EqualFunc_Form_FormSame (fuel : Nat) (x1 : (List Form)) (x2 : (List Form)) : Option Bool :=
 match fuel with
 | 0 => none
 | fuel + 1 =>
 (bif (decide ((x1.length : Int) ≠ (x2.length : Int))) then
 some false
 else
 m_slices_EqualFunc_Form_FormSame_l1 fuel x1 x2 0)
def m_slices_EqualFunc_Form_FormSame_l1 (fuel : Nat) (x1 : (List Form)) (x2 : (List Form)) (g2 : Int) : Option Bool :=
 match fuel with
 | 0 => none
 | fuel + 1 =>
 (bif (decide (g2 < (x1.length : Int))) then
 (idx x1 g2).bind fun v6 =>
 (idx x2 g2).bind fun v7 =>
 (m_impl_FormSame fuel v6 v7).bind fun v8 =>
 (bif (!v8) then
 some false
 else
 m_slices_EqualFunc_Form_FormSame_l1 fuel x1 x2 (g2 + 1))
 else
 some true)
end
def m_impl_isIn_1 (fuel : Nat) (x1 : Form) (o1 : Form) : Option Bool :=
 (m_impl_FormSame fuel x1 o1).bind fun v1 =>
 some v1
def m_slices_IndexFunc_Form_isIn_1_l1 (fuel : Nat) (x1 : (List Form)) (o1 : Form) (g1 : Int) : Option Int :=
 match fuel with
 | 0 => none
 | fuel + 1 =>
 (bif (decide (g1 < (x1.length : Int))) then
 (idx x1 g1).bind fun v5 =>
 (m_impl_isIn_1 fuel v5 o1).bind fun v6 =>
 (bif v6 then
 some g1
 else
 m_slices_IndexFunc_Form_isIn_1_l1 fuel x1 o1 (g1 + 1))
 else
 some (-1))
def m_slices_IndexFunc_Form_isIn_1 (fuel : Nat) (x1 : (List Form)) (o1 : Form) : Option Int :=
 m_slices_IndexFunc_Form_isIn_1_l1 fuel x1 o1 0
def m_slices_ContainsFunc_Form_isIn_1 (fuel : Nat) (x1 : (List Form)) (o1 : Form) : Option Bool :=
 (m_slices_IndexFunc_Form_isIn_1 fuel x1 o1).bind fun v1 =>
 some (decide (0 ≤ v1))
def m_impl_isIn (fuel : Nat) (x1 : (List Form)) (x2 : Form) : Option Bool :=
 (m_slices_ContainsFunc_Form_isIn_1 fuel x1 x2).bind fun v1 =>
 some v1
def m_impl_literalsOk_l1 (fuel : Nat) (x1 : (List Form)) (g1 : Int) : Option Bool :=
 match fuel with
 | 0 => none
 | fuel + 1 =>
 (bif (decide (g1 < (x1.length : Int))) then
 (idx x1 g1).bind fun v5 =>
 (m_impl_isName fuel v5).bind fun v6 =>
 (bif (!v6) then
 some false
 else
 (bif (decide (v5.name = (⟨#[46, 46, 46]⟩ : ByteArray))) then
 some false
 else
 (bif (decide (v5.name = (⟨#[95]⟩ : ByteArray))) then
 some false
 else
 (sub x1 0 g1).bind fun v10 =>
 (m_impl_isIn fuel v10 v5).bind fun v11 =>
 (bif v11 then
 some false
 else
 m_impl_literalsOk_l1 fuel x1 (g1 + 1)))))
 else
 some (decide ((x1.length : Int) ≤ 9)))
def m_impl_literalsOk (fuel : Nat) (x1 : (List Form)) : Option Bool :=
 m_impl_literalsOk_l1 fuel x1 0
def m_impl_named (fuel : Nat) (x1 : Form) (x2 : ByteArray) : Option Bool :=
 (bif (decide (x1.kind = 1)) then
 some (decide (x1.name = x2))
 else
 some false)
def m_impl_dotsAt_1 (fuel : Nat) (x1 : Form) : Option Bool :=
 (m_impl_named fuel x1 (⟨#[46, 46, 46]⟩ : ByteArray)).bind fun v1 =>
 some v1
def m_slices_IndexFunc_Form_dotsAt_1_l1 (fuel : Nat) (x1 : (List Form)) (g1 : Int) : Option Int :=
 match fuel with
 | 0 => none
 | fuel + 1 =>
 (bif (decide (g1 < (x1.length : Int))) then
 (idx x1 g1).bind fun v5 =>
 (m_impl_dotsAt_1 fuel v5).bind fun v6 =>
 (bif v6 then
 some g1
 else
 m_slices_IndexFunc_Form_dotsAt_1_l1 fuel x1 (g1 + 1))
 else
 some (-1))
def m_slices_IndexFunc_Form_dotsAt_1 (fuel : Nat) (x1 : (List Form)) : Option Int :=
 m_slices_IndexFunc_Form_dotsAt_1_l1 fuel x1 0
def m_impl_dotsAt (fuel : Nat) (x1 : (List Form)) : Option Int :=
 (m_slices_IndexFunc_Form_dotsAt_1 fuel x1).bind fun v1 =>
 some v1
mutual
def m_impl_dotsOk (fuel : Nat) (x1 : Form) (x2 : Bool) : Option Bool :=
 match fuel with
 | 0 => none
 | fuel + 1 =>
 m_impl_dotsOk_l1 fuel x1 x2 0
def m_impl_dotsOk_l1 (fuel : Nat) (x1 : Form) (x2 : Bool) (g1 : Int) : Option Bool :=
 match fuel with
 | 0 => none
 | fuel + 1 =>
 (bif (decide (g1 < (x1.kids.length : Int))) then
 (idx x1.kids g1).bind fun v5 =>
 (m_impl_named fuel v5 (⟨#[46, 46, 46]⟩ : ByteArray)).bind fun v6 =>
 (bif v6 then
 (bif (decide (g1 = 0)) then
 some false
 else
 (idx x1.kids (w64 (g1 - 1))).bind fun v9 =>
 (m_impl_named fuel v9 (⟨#[46, 46, 46]⟩ : ByteArray)).bind fun v10 =>
 (bif v10 then
 some false
 else
 (bif x2 then
 (sub x1.kids 0 g1).bind fun v13 =>
 (m_impl_dotsAt fuel v13).bind fun v14 =>
 (bif (decide (0 ≤ v14)) then
 some false
 else
 m_impl_dotsOk_l1 fuel x1 x2 (g1 + 1))
 else
 m_impl_dotsOk_l1 fuel x1 x2 (g1 + 1))))
 else
 (m_impl_dotsOk fuel v5 x2).bind fun v16 =>
 (bif (!v16) then
 some false
 else
 m_impl_dotsOk_l1 fuel x1 x2 (g1 + 1)))
 else
 some true)
end
def m_impl_isVar (fuel : Nat) (x1 : Form) (x2 : (List Form)) : Option Bool :=
 (bif (decide (x1.kind = 1)) then
 (bif (decide (x1.name ≠ (⟨#[46, 46, 46]⟩ : ByteArray))) then
 (bif (decide (x1.name ≠ (⟨#[95]⟩ : ByteArray))) then
 (m_impl_isIn fuel x2 x1).bind fun v4 =>
 some (!v4)
 else
 some false)
 else
 some false)
 else
 some false)
mutual
def m_impl_patternVars (fuel : Nat) (x1 : Form) (x2 : (List Form)) (x3 : Int) (o1 : (List Form)) (o2 : (List Int)) : Option ((List Form) × (List Int)) :=
 match fuel with
 | 0 => none
 | fuel + 1 =>
 (m_impl_isVar fuel x1 x2).bind fun v1 =>
 (bif v1 then
 chk (decide ((o1.length + [(Form.mk 0 (⟨#[]⟩ : ByteArray) 0 ([] : List Int) ([] : List Form))].length) * 80 ≤ 140737488355328)) <|
 (idx (o1 ++ [(Form.mk 0 (⟨#[]⟩ : ByteArray) 0 ([] : List Int) ([] : List Form))]) (o1.length : Int)).bind fun v4 =>
 chk (decide ((o2.length + [x3].length) * 8 ≤ 140737488355328)) <|
 m_impl_patternVars_l1 fuel x1 x2 x3 0 ((o1 ++ [(Form.mk 0 (⟨#[]⟩ : ByteArray) 0 ([] : List Int) ([] : List Form))]).set (o1.length : Int).toNat x1) (o2 ++ [x3])
 else
 m_impl_patternVars_l1 fuel x1 x2 x3 0 o1 o2)
def m_impl_patternVars_l1 (fuel : Nat) (x1 : Form) (x2 : (List Form)) (x3 : Int) (g6 : Int) (g7 : (List Form)) (g8 : (List Int)) : Option ((List Form) × (List Int)) :=
 match fuel with
 | 0 => none
 | fuel + 1 =>
 (bif (decide (g6 < (x1.kids.length : Int))) then
 (idx x1.kids g6).bind fun v12 =>
 (bif (decide ((g6 + 1) < (x1.kids.length : Int))) then
 (idx x1.kids (g6 + 1)).bind fun v14 =>
 (m_impl_named fuel v14 (⟨#[46, 46, 46]⟩ : ByteArray)).bind fun v15 =>
 (bif v15 then
 (m_impl_patternVars fuel v12 x2 (w64 (x3 + 1)) g7 g8).bind fun v17 =>
 m_impl_patternVars_l1 fuel x1 x2 x3 (g6 + 1) v17.1 v17.2
 else
 (m_impl_patternVars fuel v12 x2 x3 g7 g8).bind fun v18 =>
 m_impl_patternVars_l1 fuel x1 x2 x3 (g6 + 1) v18.1 v18.2)
 else
 (m_impl_patternVars fuel v12 x2 x3 g7 g8).bind fun v19 =>
 m_impl_patternVars_l1 fuel x1 x2 x3 (g6 + 1) v19.1 v19.2)
 else
 some (g7, g8))
end
def m_impl_varsOf (fuel : Nat) (x1 : Form) (x2 : (List Form)) : Option ((List Form) × (List Int)) :=
 (m_impl_patternVars fuel x1 x2 0 ([] : List Form) ([] : List Int)).bind fun v1 =>
 some (v1.1, v1.2)
def m_impl_PatternValid_l1 (fuel : Nat) (v9 : (List Form) × (List Int)) (g10 : Int) (g11 : (List Form)) : Option Bool :=
 match fuel with
 | 0 => none
 | fuel + 1 =>
 (bif (decide (g10 < (v9.1.length : Int))) then
 (idx g11 g10).bind fun v14 =>
 (sub g11 0 g10).bind fun v15 =>
 (m_impl_isIn fuel v15 v14).bind fun v16 =>
 (bif v16 then
 some false
 else
 (idx v9.2 g10).bind fun v18 =>
 (bif (decide (3 < v18)) then
 some false
 else
 m_impl_PatternValid_l1 fuel v9 (w64 (g10 + 1)) g11))
 else
 some (decide ((g11.length : Int) ≤ 20)))
def m_impl_PatternValid (fuel : Nat) (x1 : Form) (x2 : (List Form)) : Option Bool :=
 (m_impl_FormValid fuel x1).bind fun v1 =>
 (bif (!v1) then
 some false
 else
 (m_impl_literalsOk fuel x2).bind fun v3 =>
 (bif (!v3) then
 some false
 else
 (m_impl_named fuel x1 (⟨#[46, 46, 46]⟩ : ByteArray)).bind fun v5 =>
 (bif v5 then
 some false
 else
 (m_impl_dotsOk fuel x1 true).bind fun v7 =>
 (bif (!v7) then
 some false
 else
 (m_impl_varsOf fuel x1 x2).bind fun v9 =>
 m_impl_PatternValid_l1 fuel v9 0 v9.1))))
def m_slices_Clone_int (fuel : Nat) (x1 : (List Int)) : Option (List Int) :=
 chk (decide ((([] : List Int).length + x1.length) * 8 ≤ 140737488355328)) <|
 some (([] : List Int) ++ x1)
mutual
def m_impl_copyForm (fuel : Nat) (x1 : Form) : Option Form :=
 match fuel with
 | 0 => none
 | fuel + 1 =>
 (m_slices_Clone_int fuel x1.scopes).bind fun v1 =>
 m_impl_copyForm_l1 fuel x1 v1 0 ([] : List Form)
def m_impl_copyForm_l1 (fuel : Nat) (x1 : Form) (v1 : (List Int)) (g2 : Int) (g3 : (List Form)) : Option Form :=
 match fuel with
 | 0 => none
 | fuel + 1 =>
 (bif (decide (g2 < (x1.kids.length : Int))) then
 (idx x1.kids g2).bind fun v7 =>
 (m_impl_copyForm fuel v7).bind fun v8 =>
 chk (decide ((g3.length + [v8].length) * 80 ≤ 140737488355328)) <|
 m_impl_copyForm_l1 fuel x1 v1 (g2 + 1) (g3 ++ [v8])
 else
 some (Form.mk x1.kind x1.name x1.n v1 g3))
end
def m_impl_PatternVars_l1 (fuel : Nat) (v3 : (List Form) × (List Int)) (g4 : Int) (g5 : (List Form)) : Option (List Form) :=
 match fuel with
 | 0 => none
 | fuel + 1 =>
 (bif (decide (g4 < (v3.1.length : Int))) then
 (idx g5 g4).bind fun v8 =>
 (m_impl_copyForm fuel v8).bind fun v9 =>
 (idx g5 g4).bind fun v10 =>
 m_impl_PatternVars_l1 fuel v3 (w64 (g4 + 1)) (g5.set g4.toNat v9)
 else
 some g5)
def m_impl_PatternVars (fuel : Nat) (x1 : Form) (x2 : (List Form)) : Option (List Form) :=
 (m_impl_PatternValid fuel x1 x2).bind fun v1 =>
 (bif (!v1) then
 some ([] : List Form)
 else
 (m_impl_varsOf fuel x1 x2).bind fun v3 =>
 m_impl_PatternVars_l1 fuel v3 0 v3.1)
mutual
def m_spec_l15OwnForm (fuel : Nat) (x1 : Form) : Option Form :=
 match fuel with
 | 0 => none
 | fuel + 1 =>
 chk (decide ((([] : List Int).length + x1.scopes.length) * 8 ≤ 140737488355328)) <|
 (m_spec_l15OwnListForm fuel x1.kids).bind fun v2 =>
 some (Form.mk x1.kind x1.name x1.n (([] : List Int) ++ x1.scopes) v2)
def m_spec_l15OwnListForm (fuel : Nat) (x1 : (List Form)) : Option (List Form) :=
 match fuel with
 | 0 => none
 | fuel + 1 =>
 m_spec_l15OwnListForm_l1 fuel x1 ([] : List Form) 0
def m_spec_l15OwnListForm_l1 (fuel : Nat) (x1 : (List Form)) (g1 : (List Form)) (g2 : Int) : Option (List Form) :=
 match fuel with
 | 0 => none
 | fuel + 1 =>
 (bif (decide (g2 < (x1.length : Int))) then
 (idx x1 g2).bind fun v6 =>
 (m_spec_l15OwnForm fuel v6).bind fun v7 =>
 chk (decide ((g1.length + [v7].length) * 80 ≤ 140737488355328)) <|
 m_spec_l15OwnListForm_l1 fuel x1 (g1 ++ [v7]) (g2 + 1)
 else
 some g1)
end
def m_spec_l3Is (fuel : Nat) (x1 : Form) : Option Bool :=
 (bif (decide (x1.kind = 1)) then
 (m_spec_FormValid fuel x1).bind fun v2 =>
 some v2
 else
 some false)
def m_spec_l1Ints_l1 (fuel : Nat) (x1 : (List Int)) (x2 : (List Int)) (g2 : Int) : Option Bool :=
 match fuel with
 | 0 => none
 | fuel + 1 =>
 (bif (decide (g2 < (x1.length : Int))) then
 (idx x1 g2).bind fun v6 =>
 (idx x2 g2).bind fun v7 =>
 (bif (decide (v6 ≠ v7)) then
 some false
 else
 m_spec_l1Ints_l1 fuel x1 x2 (g2 + 1))
 else
 some true)
def m_spec_l1Ints (fuel : Nat) (x1 : (List Int)) (x2 : (List Int)) : Option Bool :=
 (bif (decide ((x1.length : Int) ≠ (x2.length : Int))) then
 some false
 else
 m_spec_l1Ints_l1 fuel x1 x2 0)
mutual
def m_spec_FormSame (fuel : Nat) (x1 : Form) (x2 : Form) : Option Bool :=
 match fuel with
 | 0 => none
 | fuel + 1 =>
 (bif (decide (x1.kind ≠ x2.kind)) then
 some false
 else
 (bif (decide (x1.name ≠ x2.name)) then
 some false
 else
 (bif (decide (x1.n ≠ x2.n)) then
 some false
 else
 (m_spec_l1Ints fuel x1.scopes x2.scopes).bind fun v4 =>
 (bif (!v4) then
 some false
 else
 (bif (decide ((x1.kids.length : Int) ≠ (x2.kids.length : Int))) then
 some false
 else
 m_spec_FormSame_l1 fuel x1 x2 0)))))
def m_spec_FormSame_l1 (fuel : Nat) (x1 : Form) (x2 : Form) (g7 : Int) : Option Bool :=
 match fuel with
 | 0 => none
 | fuel + 1 =>
 (bif (decide (g7 < (x1.kids.length : Int))) then
 (idx x1.kids g7).bind fun v11 =>
 (idx x2.kids g7).bind fun v12 =>
 (m_spec_FormSame fuel v11 v12).bind fun v13 =>
 (bif (!v13) then
 some false
 else
 m_spec_FormSame_l1 fuel x1 x2 (g7 + 1))
 else
 some true)
end
def m_spec_l4In_l1 (fuel : Nat) (x1 : (List Form)) (x2 : Form) (g1 : Int) : Option Bool :=
 match fuel with
 | 0 => none
 | fuel + 1 =>
 (bif (decide (g1 < (x1.length : Int))) then
 (idx x1 g1).bind fun v5 =>
 (m_spec_FormSame fuel v5 x2).bind fun v6 =>
 (bif v6 then
 some true
 else
 m_spec_l4In_l1 fuel x1 x2 (g1 + 1))
 else
 some false)
def m_spec_l4In (fuel : Nat) (x1 : (List Form)) (x2 : Form) : Option Bool :=
 m_spec_l4In_l1 fuel x1 x2 0
def m_spec_l4Literals_l1 (fuel : Nat) (x1 : (List Form)) (g1 : Int) : Option Bool :=
 match fuel with
 | 0 => none
 | fuel + 1 =>
 (bif (decide (g1 < (x1.length : Int))) then
 (bif (decide (g1 < 10)) then
 (idx x1 g1).bind fun v5 =>
 (m_spec_l3Is fuel v5).bind fun v6 =>
 (bif (!v6) then
 some false
 else
 (idx x1 g1).bind fun v8 =>
 (bif (decide (v8.name = (⟨#[46, 46, 46]⟩ : ByteArray))) then
 some false
 else
 (idx x1 g1).bind fun v10 =>
 (bif (decide (v10.name = (⟨#[95]⟩ : ByteArray))) then
 some false
 else
 (sub x1 0 g1).bind fun v12 =>
 (idx x1 g1).bind fun v13 =>
 (m_spec_l4In fuel v12 v13).bind fun v14 =>
 (bif v14 then
 some false
 else
 m_spec_l4Literals_l1 fuel x1 (w64 (g1 + 1))))))
 else
 some (decide ((x1.length : Int) < 10)))
 else
 some (decide ((x1.length : Int) < 10)))
def m_spec_l4Literals (fuel : Nat) (x1 : (List Form)) : Option Bool :=
 m_spec_l4Literals_l1 fuel x1 0
def m_spec_l4Dots (fuel : Nat) (x1 : Form) : Option Bool :=
 (bif (decide (x1.kind = 1)) then
 some (decide (x1.name = (⟨#[46, 46, 46]⟩ : ByteArray)))
 else
 some false)
mutual
def m_spec_l4Shape (fuel : Nat) (x1 : Form) : Option Bool :=
 match fuel with
 | 0 => none
 | fuel + 1 =>
 (m_spec_l4Dots fuel x1).bind fun v1 =>
 (bif v1 then
 some false
 else
 m_spec_l4Shape_l1 fuel x1 0 0)
def m_spec_l4Shape_l1 (fuel : Nat) (x1 : Form) (g3 : Int) (g4 : Int) : Option Bool :=
 match fuel with
 | 0 => none
 | fuel + 1 =>
 (bif (decide (g4 < (x1.kids.length : Int))) then
 (idx x1.kids g4).bind fun v8 =>
 (m_spec_l4Dots fuel v8).bind fun v9 =>
 (bif v9 then
 (bif (decide (g4 = 0)) then
 some false
 else
 (idx x1.kids (w64 (g4 - 1))).bind fun v12 =>
 (m_spec_l4Dots fuel v12).bind fun v13 =>
 (bif v13 then
 some false
 else
 m_spec_l4Shape_l1 fuel x1 (w64 (g3 + 1)) (g4 + 1)))
 else
 (idx x1.kids g4).bind fun v15 =>
 (m_spec_l4Shape fuel v15).bind fun v16 =>
 (bif (!v16) then
 some false
 else
 m_spec_l4Shape_l1 fuel x1 g3 (g4 + 1)))
 else
 some (decide (g3 ≤ 1)))
end
def m_spec_l4Var (fuel : Nat) (x1 : Form) (x2 : (List Form)) : Option Bool :=
 (bif (decide (x1.kind = 1)) then
 (bif (decide (x1.name ≠ (⟨#[46, 46, 46]⟩ : ByteArray))) then
 (bif (decide (x1.name ≠ (⟨#[95]⟩ : ByteArray))) then
 (m_spec_l4In fuel x2 x1).bind fun v4 =>
 some (!v4)
 else
 some false)
 else
 some false)
 else
 some false)
mutual
def m_spec_l4Vars (fuel : Nat) (x1 : (List Form)) (x2 : Form) (x3 : (List Form)) : Option (List Form) :=
 match fuel with
 | 0 => none
 | fuel + 1 =>
 (m_spec_l4Var fuel x2 x3).bind fun v1 =>
 (bif v1 then
 chk (decide ((x1.length + [x2].length) * 80 ≤ 140737488355328)) <|
 m_spec_l4Vars_l1 fuel x2 x3 (x1 ++ [x2]) 0
 else
 m_spec_l4Vars_l1 fuel x2 x3 x1 0)
def m_spec_l4Vars_l1 (fuel : Nat) (x2 : Form) (x3 : (List Form)) (g4 : (List Form)) (g5 : Int) : Option (List Form) :=
 match fuel with
 | 0 => none
 | fuel + 1 =>
 (bif (decide (g5 < (x2.kids.length : Int))) then
 (idx x2.kids g5).bind fun v9 =>
 (m_spec_l4Vars fuel g4 v9 x3).bind fun v10 =>
 m_spec_l4Vars_l1 fuel x2 x3 v10 (g5 + 1)
 else
 some g4)
end
mutual
def m_spec_l4Depths (fuel : Nat) (x1 : (List Int)) (x2 : Form) (x3 : (List Form)) (x4 : Int) : Option (List Int) :=
 match fuel with
 | 0 => none
 | fuel + 1 =>
 (m_spec_l4Var fuel x2 x3).bind fun v1 =>
 (bif v1 then
 chk (decide ((x1.length + [x4].length) * 8 ≤ 140737488355328)) <|
 m_spec_l4Depths_l1 fuel x2 x3 x4 (x1 ++ [x4]) 0
 else
 m_spec_l4Depths_l1 fuel x2 x3 x4 x1 0)
def m_spec_l4Depths_l1 (fuel : Nat) (x2 : Form) (x3 : (List Form)) (x4 : Int) (g4 : (List Int)) (g5 : Int) : Option (List Int) :=
 match fuel with
 | 0 => none
 | fuel + 1 =>
 (bif (decide (g5 < (x2.kids.length : Int))) then
 (bif (decide ((g5 + 1) < (x2.kids.length : Int))) then
 (idx x2.kids (g5 + 1)).bind fun v10 =>
 (m_spec_l4Dots fuel v10).bind fun v11 =>
 (bif v11 then
 (idx x2.kids g5).bind fun v13 =>
 (m_spec_l4Depths fuel g4 v13 x3 (w64 (x4 + 1))).bind fun v14 =>
 m_spec_l4Depths_l1 fuel x2 x3 x4 v14 (g5 + 1)
 else
 (idx x2.kids g5).bind fun v15 =>
 (m_spec_l4Depths fuel g4 v15 x3 x4).bind fun v16 =>
 m_spec_l4Depths_l1 fuel x2 x3 x4 v16 (g5 + 1))
 else
 (idx x2.kids g5).bind fun v17 =>
 (m_spec_l4Depths fuel g4 v17 x3 x4).bind fun v18 =>
 m_spec_l4Depths_l1 fuel x2 x3 x4 v18 (g5 + 1))
 else
 some g4)
end
mutual
def m_spec_l4Is_l2 (fuel : Nat) (g9 : (List Form)) (v17 : (List Int)) (g18 : Int) : Option Bool :=
 match fuel with
 | 0 => none
 | fuel + 1 =>
 (bif (decide (g18 < (v17.length : Int))) then
 (idx v17 g18).bind fun v22 =>
 (bif (decide (3 < v22)) then
 some false
 else
 m_spec_l4Is_l2 fuel g9 v17 (g18 + 1))
 else
 some (decide ((g9.length : Int) ≤ 20)))
def m_spec_l4Is_l1 (fuel : Nat) (x1 : Form) (x2 : (List Form)) (g8 : Int) (g9 : (List Form)) : Option Bool :=
 match fuel with
 | 0 => none
 | fuel + 1 =>
 (bif (decide (g8 < (g9.length : Int))) then
 (sub g9 0 g8).bind fun v13 =>
 (idx g9 g8).bind fun v14 =>
 (m_spec_l4In fuel v13 v14).bind fun v15 =>
 (bif v15 then
 some false
 else
 m_spec_l4Is_l1 fuel x1 x2 (g8 + 1) g9)
 else
 (m_spec_l4Depths fuel ([] : List Int) x1 x2 0).bind fun v17 =>
 m_spec_l4Is_l2 fuel g9 v17 0)
end
def m_spec_l4Is (fuel : Nat) (x1 : Form) (x2 : (List Form)) : Option Bool :=
 (m_spec_FormValid fuel x1).bind fun v1 =>
 (bif (!v1) then
 some false
 else
 (m_spec_l4Literals fuel x2).bind fun v3 =>
 (bif (!v3) then
 some false
 else
 (m_spec_l4Shape fuel x1).bind fun v5 =>
 (bif (!v5) then
 some false
 else
 (m_spec_l4Vars fuel ([] : List Form) x1 x2).bind fun v7 =>
 m_spec_l4Is_l1 fuel x1 x2 0 v7)))
def m_spec_PatternVars (fuel : Nat) (x1 : Form) (x2 : (List Form)) : Option (List Form) :=
 (m_spec_l15OwnForm fuel x1).bind fun v1 =>
 (m_spec_l4Is fuel v1 x2).bind fun v2 =>
 (bif (!v2) then
 some ([] : List Form)
 else
 (m_spec_l4Vars fuel ([] : List Form) v1 x2).bind fun v4 =>
 some v4)
def m_laws_mxForms_l1 (fuel : Nat) (x1 : (List Form)) (x2 : (List Form)) (g2 : Int) : Option Bool :=
 match fuel with
 | 0 => none
 | fuel + 1 =>
 (bif (decide (g2 < (x1.length : Int))) then
 (idx x1 g2).bind fun v6 =>
 (idx x2 g2).bind fun v7 =>
 (m_impl_FormSame fuel v6 v7).bind fun v8 =>
 (bif (!v8) then
 some false
 else
 m_laws_mxForms_l1 fuel x1 x2 (g2 + 1))
 else
 some true)
def m_laws_mxForms (fuel : Nat) (x1 : (List Form)) (x2 : (List Form)) : Option Bool :=
 (bif (decide ((x1.length : Int) ≠ (x2.length : Int))) then
 some false
 else
 m_laws_mxForms_l1 fuel x1 x2 0)
mutual
def m_laws_mxPart (fuel : Nat) (x1 : Form) (x2 : Form) : Option Bool :=
 match fuel with
 | 0 => none
 | fuel + 1 =>
 (m_impl_FormSame fuel x1 x2).bind fun v1 =>
 (bif v1 then
 some true
 else
 m_laws_mxPart_l1 fuel x1 x2 0)
def m_laws_mxPart_l1 (fuel : Nat) (x1 : Form) (x2 : Form) (g3 : Int) : Option Bool :=
 match fuel with
 | 0 => none
 | fuel + 1 =>
 (bif (decide (g3 < (x1.kids.length : Int))) then
 (idx x1.kids g3).bind fun v7 =>
 (m_laws_mxPart fuel v7 x2).bind fun v8 =>
 (bif v8 then
 some true
 else
 m_laws_mxPart_l1 fuel x1 x2 (g3 + 1))
 else
 some false)
end
mutual
def m_laws_FnVarsOf_l2 (fuel : Nat) (v3 : Form × (List Form)) (v4 : (List Form)) (g8 : Int) (g21 : Int) : Option Bool :=
 match fuel with
 | 0 => none
 | fuel + 1 =>
 (bif (decide (g21 < (v3.2.length : Int))) then
 (idx v3.2 g21).bind fun v25 =>
 (idx v4 g8).bind fun v26 =>
 (m_impl_FormSame fuel v25 v26).bind fun v27 =>
 (bif v27 then
 some false
 else
 m_laws_FnVarsOf_l2 fuel v3 v4 g8 (g21 + 1))
 else
 m_laws_FnVarsOf_l1 fuel v3 v4 (w64 (g8 + 1)))
def m_laws_FnVarsOf_l1 (fuel : Nat) (v3 : Form × (List Form)) (v4 : (List Form)) (g8 : Int) : Option Bool :=
 match fuel with
 | 0 => none
 | fuel + 1 =>
 (bif (decide (g8 < (v4.length : Int))) then
 (idx v4 g8).bind fun v12 =>
 (bif (decide (v12.kind ≠ 1)) then
 some false
 else
 (idx v4 g8).bind fun v14 =>
 (bif (decide (v14.name = (⟨#[46, 46, 46]⟩ : ByteArray))) then
 some false
 else
 (idx v4 g8).bind fun v16 =>
 (bif (decide (v16.name = (⟨#[95]⟩ : ByteArray))) then
 some false
 else
 (idx v4 g8).bind fun v18 =>
 (m_laws_mxPart fuel v3.1 v18).bind fun v19 =>
 (bif (!v19) then
 some false
 else
 m_laws_FnVarsOf_l2 fuel v3 v4 g8 0))))
 else
 some true)
end
def m_laws_FnVarsOf (fuel : Nat) (x1 : (List Int)) : Option Bool :=
 (bif (decide (1048576 < (x1.length : Int))) then
 some true
 else
 (m_spec_DrawPatternVars fuel x1).bind fun v3 =>
 (m_impl_PatternVars fuel v3.1 v3.2).bind fun v4 =>
 (m_spec_PatternVars fuel v3.1 v3.2).bind fun v5 =>
 (m_laws_mxForms fuel v4 v5).bind fun v6 =>
 (bif (!v6) then
 some false
 else
 m_laws_FnVarsOf_l1 fuel v3 v4 0))
def m_impl_VarDepths (fuel : Nat) (x1 : Form) (x2 : (List Form)) : Option (List Int) :=
 (m_impl_PatternValid fuel x1 x2).bind fun v1 =>
 (bif (!v1) then
 some ([] : List Int)
 else
 (m_impl_varsOf fuel x1 x2).bind fun v3 =>
 some v3.2)
def m_spec_PatternValid (fuel : Nat) (x1 : Form) (x2 : (List Form)) : Option Bool :=
 (m_spec_l4Is fuel x1 x2).bind fun v1 =>
 some v1
def m_spec_VarDepths (fuel : Nat) (x1 : Form) (x2 : (List Form)) : Option (List Int) :=
 (m_spec_l4Is fuel x1 x2).bind fun v1 =>
 (bif (!v1) then
 some ([] : List Int)
 else
 (m_spec_l4Depths fuel ([] : List Int) x1 x2 0).bind fun v3 =>
 some v3)
def m_laws_mxInts_l1 (fuel : Nat) (x1 : (List Int)) (x2 : (List Int)) (g2 : Int) : Option Bool :=
 match fuel with
 | 0 => none
 | fuel + 1 =>
 (bif (decide (g2 < (x1.length : Int))) then
 (idx x1 g2).bind fun v6 =>
 (idx x2 g2).bind fun v7 =>
 (bif (decide (v6 ≠ v7)) then
 some false
 else
 m_laws_mxInts_l1 fuel x1 x2 (g2 + 1))
 else
 some true)
def m_laws_mxInts (fuel : Nat) (x1 : (List Int)) (x2 : (List Int)) : Option Bool :=
 (bif (decide ((x1.length : Int) ≠ (x2.length : Int))) then
 some false
 else
 m_laws_mxInts_l1 fuel x1 x2 0)
mutual
def m_laws_FnPatternValid_l2 (fuel : Nat) (v5 : (List Form)) (v6 : (List Int)) (g36 : Int) (g40 : Int) : Option Bool :=
 match fuel with
 | 0 => none
 | fuel + 1 =>
 (bif (decide (g40 < g36)) then
 (idx v5 g36).bind fun v43 =>
 (idx v5 g40).bind fun v44 =>
 (m_impl_FormSame fuel v43 v44).bind fun v45 =>
 (bif v45 then
 some false
 else
 m_laws_FnPatternValid_l2 fuel v5 v6 g36 (w64 (g40 + 1)))
 else
 (idx v6 g36).bind fun v47 =>
 (bif (decide (v47 < 0)) then
 some false
 else
 (idx v6 g36).bind fun v49 =>
 (bif (decide (3 < v49)) then
 some false
 else
 m_laws_FnPatternValid_l1 fuel v5 v6 (w64 (g36 + 1)))))
def m_laws_FnPatternValid_l1 (fuel : Nat) (v5 : (List Form)) (v6 : (List Int)) (g36 : Int) : Option Bool :=
 match fuel with
 | 0 => none
 | fuel + 1 =>
 (bif (decide (g36 < (v5.length : Int))) then
 m_laws_FnPatternValid_l2 fuel v5 v6 g36 0
 else
 some (decide ((v5.length : Int) = (v6.length : Int))))
end
def m_laws_FnPatternValid (fuel : Nat) (x1 : (List Int)) : Option Bool :=
 (bif (decide (1048576 < (x1.length : Int))) then
 some true
 else
 (m_spec_DrawPatternValid fuel x1).bind fun v3 =>
 (m_impl_PatternValid fuel v3.1 v3.2).bind fun v4 =>
 (m_impl_PatternVars fuel v3.1 v3.2).bind fun v5 =>
 (m_impl_VarDepths fuel v3.1 v3.2).bind fun v6 =>
 (m_spec_PatternValid fuel v3.1 v3.2).bind fun v7 =>
 (bif (decide (v4 ≠ v7)) then
 (m_spec_PatternValid fuel v3.1 v3.2).bind fun v9 =>
 (bif (decide (v4 = v9)) then
 (m_spec_PatternVars fuel v3.1 v3.2).bind fun v11 =>
 (m_laws_mxForms fuel v5 v11).bind fun v12 =>
 (bif v12 then
 some (decide ((v6.length : Int) = 0))
 else
 some false)
 else
 some false)
 else
 (m_spec_PatternVars fuel v3.1 v3.2).bind fun v14 =>
 (m_laws_mxForms fuel v5 v14).bind fun v15 =>
 (bif (!v15) then
 (m_spec_PatternValid fuel v3.1 v3.2).bind fun v17 =>
 (bif (decide (v4 = v17)) then
 (m_spec_PatternVars fuel v3.1 v3.2).bind fun v19 =>
 (m_laws_mxForms fuel v5 v19).bind fun v20 =>
 (bif v20 then
 some (decide ((v6.length : Int) = 0))
 else
 some false)
 else
 some false)
 else
 (m_spec_VarDepths fuel v3.1 v3.2).bind fun v22 =>
 (m_laws_mxInts fuel v6 v22).bind fun v23 =>
 (bif (!v23) then
 (m_spec_PatternValid fuel v3.1 v3.2).bind fun v25 =>
 (bif (decide (v4 = v25)) then
 (m_spec_PatternVars fuel v3.1 v3.2).bind fun v27 =>
 (m_laws_mxForms fuel v5 v27).bind fun v28 =>
 (bif v28 then
 some (decide ((v6.length : Int) = 0))
 else
 some false)
 else
 some false)
 else
 (bif (!v4) then
 (m_spec_PatternValid fuel v3.1 v3.2).bind fun v31 =>
 (bif (decide (v4 = v31)) then
 (m_spec_PatternVars fuel v3.1 v3.2).bind fun v33 =>
 (m_laws_mxForms fuel v5 v33).bind fun v34 =>
 (bif v34 then
 some (decide ((v6.length : Int) = 0))
 else
 some false)
 else
 some false)
 else
 m_laws_FnPatternValid_l1 fuel v5 v6 0)))))
def m_spec_l5Texts (fuel : Nat)  : Option (List (List ByteArray)) :=
 some [[(⟨#[40, 114, 117, 108, 101, 115, 32, 40, 41, 32, 40, 40, 95, 32, 97, 32, 98, 41, 32, 40, 108, 101, 116, 32, 40, 40, 116, 109, 112, 32, 97, 41, 41, 32, 40, 108, 105, 115, 116, 32, 98, 32, 116, 109, 112, 41, 41, 41, 41]⟩ : ByteArray), (⟨#[40, 115, 119, 97, 112, 32, 120, 32, 121, 41]⟩ : ByteArray)], [(⟨#[40, 114, 117, 108, 101, 115, 32, 40, 41, 32, 40, 40, 95, 41, 32, 48, 41, 32, 40, 40, 95, 32, 97, 41, 32, 97, 41, 32, 40, 40, 95, 32, 97, 32, 98, 32, 46, 46, 46, 41, 32, 40, 105, 102, 32, 97, 32, 49, 32, 40, 111, 114, 32, 98, 32, 46, 46, 46, 41, 41, 41, 41]⟩ : ByteArray), (⟨#[40, 111, 114, 32, 120, 32, 121, 32, 122, 41]⟩ : ByteArray)], [(⟨#[40, 114, 117, 108, 101, 115, 32, 40, 41, 32, 40, 40, 95, 32, 40, 40, 120, 32, 118, 41, 32, 46, 46, 46, 41, 32, 98, 111, 100, 121, 41, 32, 40, 40, 108, 97, 109, 98, 100, 97, 32, 40, 120, 32, 46, 46, 46, 41, 32, 98, 111, 100, 121, 41, 32, 118, 32, 46, 46, 46, 41, 41, 41]⟩ : ByteArray), (⟨#[40, 109, 121, 108, 101, 116, 32, 40, 40, 112, 32, 49, 41, 32, 40, 113, 32, 50, 41, 41, 32, 40, 102, 32, 112, 32, 113, 41, 41]⟩ : ByteArray)], [(⟨#[40, 114, 117, 108, 101, 115, 32, 40, 101, 108, 115, 101, 41, 32, 40, 40, 95, 32, 101, 108, 115, 101, 32, 101, 41, 32, 101, 41, 32, 40, 40, 95, 32, 99, 32, 101, 32, 114, 32, 46, 46, 46, 41, 32, 40, 105, 102, 32, 99, 32, 101, 32, 40, 99, 111, 110, 100, 32, 114, 32, 46, 46, 46, 41, 41, 41, 41]⟩ : ByteArray), (⟨#[40, 99, 111, 110, 100, 32, 112, 32, 49, 32, 101, 108, 115, 101, 32, 50, 41]⟩ : ByteArray)], [(⟨#[40, 114, 117, 108, 101, 115, 32, 40, 41, 32, 40, 40, 95, 32, 40, 97, 32, 98, 32, 46, 46, 46, 41, 32, 46, 46, 46, 41, 32, 40, 109, 32, 40, 97, 32, 46, 46, 46, 41, 32, 40, 40, 97, 32, 98, 32, 46, 46, 46, 41, 32, 46, 46, 46, 41, 32, 49, 41, 41, 41]⟩ : ByteArray), (⟨#[40, 109, 32, 40, 120, 32, 49, 32, 50, 41, 32, 40, 121, 41, 41]⟩ : ByteArray)], [(⟨#[40, 114, 117, 108, 101, 115, 32, 40, 41, 32, 40, 40, 95, 32, 97, 32, 46, 46, 46, 41, 32, 40, 108, 105, 115, 116, 32, 97, 32, 46, 46, 46, 32, 97, 32, 46, 46, 46, 41, 41, 41]⟩ : ByteArray), (⟨#[40, 116, 119, 105, 99, 101, 32, 49, 32, 50, 41]⟩ : ByteArray)], [(⟨#[40, 114, 117, 108, 101, 115, 32, 40, 41, 32, 40, 40, 95, 32, 97, 32, 46, 46, 46, 41, 32, 40, 40, 97, 32, 49, 41, 32, 46, 46, 46, 41, 41, 32, 40, 40, 95, 32, 98, 41, 32, 98, 41, 41]⟩ : ByteArray), (⟨#[40, 112, 97, 105, 114, 115, 32, 112, 32, 113, 41]⟩ : ByteArray)], [(⟨#[40, 114, 117, 108, 101, 115, 32, 40, 41, 32, 40, 40, 95, 32, 97, 41, 32, 97, 41, 32, 40, 40, 95, 32, 53, 41, 32, 54, 41, 32, 40, 40, 95, 32, 97, 32, 98, 41, 32, 98, 41, 41]⟩ : ByteArray), (⟨#[40, 107, 32, 53, 41]⟩ : ByteArray)]]
def m_spec_l5Shape_l1 (fuel : Nat) (v1 : (List Form)) (v2 : (List Int)) (g3 : (List Hit)) (g4 : Int) : Option (List Hit) :=
 match fuel with
 | 0 => none
 | fuel + 1 =>
 (bif (decide (g4 < (v1.length : Int))) then
 (idx v1 g4).bind fun v8 =>
 (idx v2 g4).bind fun v9 =>
 (bif (decide (v9 = 0)) then
 (idx v1 g4).bind fun v11 =>
 chk (decide ((g3.length + [(Hit.mk v8 v9 v11 ([] : List Hit))].length) * 192 ≤ 140737488355328)) <|
 m_spec_l5Shape_l1 fuel v1 v2 (g3 ++ [(Hit.mk v8 v9 v11 ([] : List Hit))]) (g4 + 1)
 else
 chk (decide ((g3.length + [(Hit.mk v8 v9 (Form.mk 0 (⟨#[]⟩ : ByteArray) 0 ([] : List Int) ([] : List Form)) ([] : List Hit))].length) * 192 ≤ 140737488355328)) <|
 m_spec_l5Shape_l1 fuel v1 v2 (g3 ++ [(Hit.mk v8 v9 (Form.mk 0 (⟨#[]⟩ : ByteArray) 0 ([] : List Int) ([] : List Form)) ([] : List Hit))]) (g4 + 1))
 else
 some g3)
def m_spec_l5Shape (fuel : Nat) (x1 : Form) (x2 : (List Form)) : Option (List Hit) :=
 (m_spec_l4Vars fuel ([] : List Form) x1 x2).bind fun v1 =>
 (m_spec_l4Depths fuel ([] : List Int) x1 x2 0).bind fun v2 =>
 m_spec_l5Shape_l1 fuel v1 v2 ([] : List Hit) 0
def m_spec_l4Find_l1 (fuel : Nat) (x1 : (List Hit)) (x2 : Form) (g1 : Int) : Option Int :=
 match fuel with
 | 0 => none
 | fuel + 1 =>
 (bif (decide (g1 < (x1.length : Int))) then
 (idx x1 g1).bind fun v5 =>
 (m_spec_FormSame fuel v5.name x2).bind fun v6 =>
 (bif v6 then
 some g1
 else
 m_spec_l4Find_l1 fuel x1 x2 (g1 + 1))
 else
 some (-1))
def m_spec_l4Find (fuel : Nat) (x1 : (List Hit)) (x2 : Form) : Option Int :=
 m_spec_l4Find_l1 fuel x1 x2 0
def m_spec_l5Depth (fuel : Nat) (x1 : (List Hit)) (x2 : Form) : Option Int :=
 (bif (decide (x2.kind ≠ 1)) then
 some (-1)
 else
 (m_spec_l4Find fuel x1 x2).bind fun v2 =>
 (bif (decide (v2 < 0)) then
 some (-1)
 else
 (idx x1 v2).bind fun v4 =>
 some v4.depth))
mutual
def m_spec_l5Rows (fuel : Nat) (x1 : (List Hit)) (x2 : Form) : Option Bool :=
 match fuel with
 | 0 => none
 | fuel + 1 =>
 (m_spec_l5Depth fuel x1 x2).bind fun v1 =>
 (bif (decide (0 < v1)) then
 some true
 else
 m_spec_l5Rows_l1 fuel x1 x2 0)
def m_spec_l5Rows_l1 (fuel : Nat) (x1 : (List Hit)) (x2 : Form) (g3 : Int) : Option Bool :=
 match fuel with
 | 0 => none
 | fuel + 1 =>
 (bif (decide (g3 < (x2.kids.length : Int))) then
 (idx x2.kids g3).bind fun v7 =>
 (m_spec_l5Rows fuel x1 v7).bind fun v8 =>
 (bif v8 then
 some true
 else
 m_spec_l5Rows_l1 fuel x1 x2 (g3 + 1))
 else
 some false)
end
def m_spec_l5Less_l1 (fuel : Nat) (x1 : (List Hit)) (g1 : (List Hit)) (g2 : Int) : Option (List Hit) :=
 match fuel with
 | 0 => none
 | fuel + 1 =>
 (bif (decide (g2 < (x1.length : Int))) then
 (idx x1 g2).bind fun v6 =>
 (idx x1 g2).bind fun v7 =>
 (idx x1 g2).bind fun v8 =>
 (bif (decide (0 < v7.depth)) then
 chk (decide ((g1.length + [(Hit.mk v6.name (w64 (v7.depth - 1)) v8.one ([] : List Hit))].length) * 192 ≤ 140737488355328)) <|
 m_spec_l5Less_l1 fuel x1 (g1 ++ [(Hit.mk v6.name (w64 (v7.depth - 1)) v8.one ([] : List Hit))]) (g2 + 1)
 else
 chk (decide ((g1.length + [(Hit.mk v6.name v7.depth v8.one ([] : List Hit))].length) * 192 ≤ 140737488355328)) <|
 m_spec_l5Less_l1 fuel x1 (g1 ++ [(Hit.mk v6.name v7.depth v8.one ([] : List Hit))]) (g2 + 1))
 else
 some g1)
def m_spec_l5Less (fuel : Nat) (x1 : (List Hit)) : Option (List Hit) :=
 m_spec_l5Less_l1 fuel x1 ([] : List Hit) 0
mutual
def m_spec_l5Is (fuel : Nat) (x1 : Form) (x2 : (List Hit)) : Option Bool :=
 match fuel with
 | 0 => none
 | fuel + 1 =>
 (m_spec_l4Dots fuel x1).bind fun v1 =>
 (bif v1 then
 some false
 else
 (m_spec_l5Depth fuel x2 x1).bind fun v3 =>
 (bif (decide (0 < v3)) then
 some false
 else
 m_spec_l5Is_l1 fuel x1 x2 0))
def m_spec_l5Is_l1 (fuel : Nat) (x1 : Form) (x2 : (List Hit)) (g5 : Int) : Option Bool :=
 match fuel with
 | 0 => none
 | fuel + 1 =>
 (bif (decide (g5 < (x1.kids.length : Int))) then
 (idx x1.kids g5).bind fun v9 =>
 (m_spec_l4Dots fuel v9).bind fun v10 =>
 (bif v10 then
 (bif (decide (g5 = 0)) then
 some false
 else
 (idx x1.kids (w64 (g5 - 1))).bind fun v13 =>
 (m_spec_l4Dots fuel v13).bind fun v14 =>
 (bif v14 then
 some false
 else
 m_spec_l5Is_l1 fuel x1 x2 (g5 + 1)))
 else
 (bif (decide ((g5 + 1) < (x1.kids.length : Int))) then
 (idx x1.kids (g5 + 1)).bind fun v17 =>
 (m_spec_l4Dots fuel v17).bind fun v18 =>
 (bif v18 then
 (idx x1.kids g5).bind fun v20 =>
 (m_spec_l5Rows fuel x2 v20).bind fun v21 =>
 (bif (!v21) then
 some false
 else
 (idx x1.kids g5).bind fun v23 =>
 (m_spec_l5Less fuel x2).bind fun v24 =>
 (m_spec_l5Is fuel v23 v24).bind fun v25 =>
 (bif (!v25) then
 some false
 else
 m_spec_l5Is_l1 fuel x1 x2 (g5 + 1)))
 else
 (idx x1.kids g5).bind fun v27 =>
 (m_spec_l5Is fuel v27 x2).bind fun v28 =>
 (bif (!v28) then
 some false
 else
 m_spec_l5Is_l1 fuel x1 x2 (g5 + 1)))
 else
 (idx x1.kids g5).bind fun v30 =>
 (m_spec_l5Is fuel v30 x2).bind fun v31 =>
 (bif (!v31) then
 some false
 else
 m_spec_l5Is_l1 fuel x1 x2 (g5 + 1))))
 else
 some true)
end
def m_spec_l5Rule (fuel : Nat) (x1 : Rule) (x2 : (List Form)) : Option Bool :=
 (m_spec_l4Is fuel x1.pattern x2).bind fun v1 =>
 (bif v1 then
 (bif (decide (x1.pattern.kind = 3)) then
 (bif (decide (0 < (x1.pattern.kids.length : Int))) then
 (m_spec_FormValid fuel x1.template).bind fun v5 =>
 (bif v5 then
 (m_spec_l5Shape fuel x1.pattern x2).bind fun v7 =>
 (m_spec_l5Is fuel x1.template v7).bind fun v8 =>
 some v8
 else
 some false)
 else
 some false)
 else
 some false)
 else
 some false)
def m_spec_l5Rules_l1 (fuel : Nat) (x1 : (List Rule)) (x2 : (List Form)) (g1 : Int) : Option Bool :=
 match fuel with
 | 0 => none
 | fuel + 1 =>
 (bif (decide (g1 < (x1.length : Int))) then
 (bif (decide (g1 < 10)) then
 (idx x1 g1).bind fun v5 =>
 (m_spec_l5Rule fuel v5 x2).bind fun v6 =>
 (bif (!v6) then
 some false
 else
 m_spec_l5Rules_l1 fuel x1 x2 (w64 (g1 + 1)))
 else
 (bif (decide ((x1.length : Int) < 10)) then
 (m_spec_l4Literals fuel x2).bind fun v9 =>
 some v9
 else
 some false))
 else
 (bif (decide ((x1.length : Int) < 10)) then
 (m_spec_l4Literals fuel x2).bind fun v11 =>
 some v11
 else
 some false))
def m_spec_l5Rules (fuel : Nat) (x1 : (List Rule)) (x2 : (List Form)) : Option Bool :=
 m_spec_l5Rules_l1 fuel x1 x2 0
mutual
def m_spec_ParseRules_l2 (fuel : Nat) (x1 : Form) (g9 : (List Form)) (g19 : (List Rule)) (g20 : Int) : Option ((List Form) × (List Rule) × Bool) :=
 match fuel with
 | 0 => none
 | fuel + 1 =>
 (bif (decide (g20 < (x1.kids.length : Int))) then
 (idx x1.kids g20).bind fun v24 =>
 (bif (decide (v24.kind ≠ 3)) then
 some (([] : List Form), ([] : List Rule), false)
 else
 (idx x1.kids g20).bind fun v26 =>
 (bif (decide ((v26.kids.length : Int) ≠ 2)) then
 some (([] : List Form), ([] : List Rule), false)
 else
 (idx x1.kids g20).bind fun v28 =>
 (idx v28.kids 0).bind fun v29 =>
 (m_spec_l1Copy fuel v29).bind fun v30 =>
 (idx x1.kids g20).bind fun v31 =>
 (idx v31.kids 1).bind fun v32 =>
 (m_spec_l1Copy fuel v32).bind fun v33 =>
 chk (decide ((g19.length + [(Rule.mk v30 v33)].length) * 160 ≤ 140737488355328)) <|
 m_spec_ParseRules_l2 fuel x1 g9 (g19 ++ [(Rule.mk v30 v33)]) (g20 + 1)))
 else
 (m_spec_l5Rules fuel g19 g9).bind fun v35 =>
 (bif (!v35) then
 some (([] : List Form), ([] : List Rule), false)
 else
 some (g9, g19, true)))
def m_spec_ParseRules_l1 (fuel : Nat) (x1 : Form) (g9 : (List Form)) (g10 : Int) : Option ((List Form) × (List Rule) × Bool) :=
 match fuel with
 | 0 => none
 | fuel + 1 =>
 (idx x1.kids 1).bind fun v12 =>
 (bif (decide (g10 < (v12.kids.length : Int))) then
 (idx x1.kids 1).bind fun v15 =>
 (idx v15.kids g10).bind fun v16 =>
 (m_spec_l1Copy fuel v16).bind fun v17 =>
 chk (decide ((g9.length + [v17].length) * 80 ≤ 140737488355328)) <|
 m_spec_ParseRules_l1 fuel x1 (g9 ++ [v17]) (g10 + 1)
 else
 m_spec_ParseRules_l2 fuel x1 g9 ([] : List Rule) 2)
end
def m_spec_ParseRules (fuel : Nat) (x1 : Form) : Option ((List Form) × (List Rule) × Bool) :=
 (m_spec_FormValid fuel x1).bind fun v1 =>
 (bif (!v1) then
 some (([] : List Form), ([] : List Rule), false)
 else
 (bif (decide (x1.kind ≠ 3)) then
 some (([] : List Form), ([] : List Rule), false)
 else
 (bif (decide ((x1.kids.length : Int) < 2)) then
 some (([] : List Form), ([] : List Rule), false)
 else
 (idx x1.kids 0).bind fun v5 =>
 (bif (decide (v5.name ≠ (⟨#[114, 117, 108, 101, 115]⟩ : ByteArray))) then
 some (([] : List Form), ([] : List Rule), false)
 else
 (idx x1.kids 1).bind fun v7 =>
 (bif (decide (v7.kind ≠ 3)) then
 some (([] : List Form), ([] : List Rule), false)
 else
 m_spec_ParseRules_l1 fuel x1 ([] : List Form) 0)))))
def m_spec_l5Case (fuel : Nat) (x1 : (List Int)) : Option ((List Form) × (List Rule) × Form) :=
 (m_spec_l15Open fuel x1).bind fun v1 =>
 (m_spec_l5Texts fuel).bind fun v2 =>
 (m_spec_l15Rd_pick fuel v1 (v2.length : Int)).bind fun v3 =>
 (idx v2 v3.1).bind fun v4 =>
 (idx v4 0).bind fun v5 =>
 (m_spec_l1Parse fuel v5).bind fun v6 =>
 (m_spec_l15Rd_pick fuel v3.2 10).bind fun v7 =>
 (bif (decide (v7.1 = 0)) then
 (m_spec_l1Mutate fuel v7.2 v6).bind fun v9 =>
 (m_spec_l1Mutate fuel v9.2 v9.1).bind fun v10 =>
 (m_spec_ParseRules fuel v10.1).bind fun v11 =>
 (bif (!v11.2.2) then
 (idx v2 0).bind fun v13 =>
 (idx v13 0).bind fun v14 =>
 (m_spec_l1Parse fuel v14).bind fun v15 =>
 (m_spec_ParseRules fuel v15).bind fun v16 =>
 (idx v2 v3.1).bind fun v17 =>
 (idx v17 1).bind fun v18 =>
 (m_spec_l1Parse fuel v18).bind fun v19 =>
 (m_spec_l15Rd_pick fuel v10.2 8).bind fun v20 =>
 (bif (decide (v20.1 = 0)) then
 (m_spec_l15Rd_pick fuel v20.2 (v2.length : Int)).bind fun v22 =>
 (idx v2 v22.1).bind fun v23 =>
 (idx v23 1).bind fun v24 =>
 (m_spec_l1Parse fuel v24).bind fun v25 =>
 some (v16.1, v16.2.1, v25)
 else
 (bif (decide (v20.1 = 1)) then
 (m_spec_l1Mutate fuel v20.2 v19).bind fun v27 =>
 (m_spec_l1Mutate fuel v27.2 v27.1).bind fun v28 =>
 some (v16.1, v16.2.1, v28.1)
 else
 (bif (decide (v20.1 = 2)) then
 (m_spec_l1Dress fuel v20.2 v19).bind fun v30 =>
 some (v16.1, v16.2.1, v30.1)
 else
 some (v16.1, v16.2.1, v19))))
 else
 (idx v2 v3.1).bind fun v31 =>
 (idx v31 1).bind fun v32 =>
 (m_spec_l1Parse fuel v32).bind fun v33 =>
 (m_spec_l15Rd_pick fuel v10.2 8).bind fun v34 =>
 (bif (decide (v34.1 = 0)) then
 (m_spec_l15Rd_pick fuel v34.2 (v2.length : Int)).bind fun v36 =>
 (idx v2 v36.1).bind fun v37 =>
 (idx v37 1).bind fun v38 =>
 (m_spec_l1Parse fuel v38).bind fun v39 =>
 some (v11.1, v11.2.1, v39)
 else
 (bif (decide (v34.1 = 1)) then
 (m_spec_l1Mutate fuel v34.2 v33).bind fun v41 =>
 (m_spec_l1Mutate fuel v41.2 v41.1).bind fun v42 =>
 some (v11.1, v11.2.1, v42.1)
 else
 (bif (decide (v34.1 = 2)) then
 (m_spec_l1Dress fuel v34.2 v33).bind fun v44 =>
 some (v11.1, v11.2.1, v44.1)
 else
 some (v11.1, v11.2.1, v33)))))
 else
 (m_spec_ParseRules fuel v6).bind fun v45 =>
 (bif (!v45.2.2) then
 (idx v2 0).bind fun v47 =>
 (idx v47 0).bind fun v48 =>
 (m_spec_l1Parse fuel v48).bind fun v49 =>
 (m_spec_ParseRules fuel v49).bind fun v50 =>
 (idx v2 v3.1).bind fun v51 =>
 (idx v51 1).bind fun v52 =>
 (m_spec_l1Parse fuel v52).bind fun v53 =>
 (m_spec_l15Rd_pick fuel v7.2 8).bind fun v54 =>
 (bif (decide (v54.1 = 0)) then
 (m_spec_l15Rd_pick fuel v54.2 (v2.length : Int)).bind fun v56 =>
 (idx v2 v56.1).bind fun v57 =>
 (idx v57 1).bind fun v58 =>
 (m_spec_l1Parse fuel v58).bind fun v59 =>
 some (v50.1, v50.2.1, v59)
 else
 (bif (decide (v54.1 = 1)) then
 (m_spec_l1Mutate fuel v54.2 v53).bind fun v61 =>
 (m_spec_l1Mutate fuel v61.2 v61.1).bind fun v62 =>
 some (v50.1, v50.2.1, v62.1)
 else
 (bif (decide (v54.1 = 2)) then
 (m_spec_l1Dress fuel v54.2 v53).bind fun v64 =>
 some (v50.1, v50.2.1, v64.1)
 else
 some (v50.1, v50.2.1, v53))))
 else
 (idx v2 v3.1).bind fun v65 =>
 (idx v65 1).bind fun v66 =>
 (m_spec_l1Parse fuel v66).bind fun v67 =>
 (m_spec_l15Rd_pick fuel v7.2 8).bind fun v68 =>
 (bif (decide (v68.1 = 0)) then
 (m_spec_l15Rd_pick fuel v68.2 (v2.length : Int)).bind fun v70 =>
 (idx v2 v70.1).bind fun v71 =>
 (idx v71 1).bind fun v72 =>
 (m_spec_l1Parse fuel v72).bind fun v73 =>
 some (v45.1, v45.2.1, v73)
 else
 (bif (decide (v68.1 = 1)) then
 (m_spec_l1Mutate fuel v68.2 v67).bind fun v75 =>
 (m_spec_l1Mutate fuel v75.2 v75.1).bind fun v76 =>
 some (v45.1, v45.2.1, v76.1)
 else
 (bif (decide (v68.1 = 2)) then
 (m_spec_l1Dress fuel v68.2 v67).bind fun v78 =>
 some (v45.1, v45.2.1, v78.1)
 else
 some (v45.1, v45.2.1, v67))))))
def m_spec_DrawRuleValid (fuel : Nat) (x1 : (List Int)) : Option (Rule × (List Form)) :=
 (m_spec_l5Case fuel x1).bind fun v1 =>
 (m_spec_l15Open fuel x1).bind fun v2 =>
 (m_spec_l15Rd_pick fuel v2 (v1.2.1.length : Int)).bind fun v3 =>
 (idx v1.2.1 v3.1).bind fun v4 =>
 (m_spec_l15Rd_pick fuel v3.2 8).bind fun v5 =>
 (bif (decide (v5.1 = 0)) then
 (m_spec_l1Mutate fuel v5.2 v4.template).bind fun v7 =>
 (m_spec_l1Mutate fuel v7.2 v7.1).bind fun v8 =>
 some ((Rule.mk v4.pattern v8.1), v1.1)
 else
 (bif (decide (v5.1 = 1)) then
 (m_spec_l1Mutate fuel v5.2 v4.pattern).bind fun v10 =>
 (m_spec_l1Mutate fuel v10.2 v10.1).bind fun v11 =>
 some ((Rule.mk v11.1 v4.template), v1.1)
 else
 some (v4, v1.1)))
def m_impl_depthIn_1 (fuel : Nat) (x1 : Form) (o1 : Form) : Option Bool :=
 (m_impl_FormSame fuel x1 o1).bind fun v1 =>
 some v1
def m_slices_IndexFunc_Form_depthIn_1_l1 (fuel : Nat) (x1 : (List Form)) (o1 : Form) (g1 : Int) : Option Int :=
 match fuel with
 | 0 => none
 | fuel + 1 =>
 (bif (decide (g1 < (x1.length : Int))) then
 (idx x1 g1).bind fun v5 =>
 (m_impl_depthIn_1 fuel v5 o1).bind fun v6 =>
 (bif v6 then
 some g1
 else
 m_slices_IndexFunc_Form_depthIn_1_l1 fuel x1 o1 (g1 + 1))
 else
 some (-1))
def m_slices_IndexFunc_Form_depthIn_1 (fuel : Nat) (x1 : (List Form)) (o1 : Form) : Option Int :=
 m_slices_IndexFunc_Form_depthIn_1_l1 fuel x1 o1 0
def m_impl_depthIn (fuel : Nat) (x1 : (List Form)) (x2 : (List Int)) (x3 : Form) : Option Int :=
 (bif (decide (x3.kind ≠ 1)) then
 some (-1)
 else
 (m_slices_IndexFunc_Form_depthIn_1 fuel x1 x3).bind fun v2 =>
 (bif (decide (v2 < 0)) then
 some (-1)
 else
 (idx x2 v2).bind fun v4 =>
 some v4))
def m_impl_rowsOk_1 (fuel : Nat) (x1 : Form) (o1 : Bool) (o2 : (List Form)) (o3 : (List Int)) (o4 : Int) : Option Bool :=
 (bif o1 then
 some true
 else
 (m_impl_depthIn fuel o2 o3 x1).bind fun v2 =>
 some (decide (o4 < v2)))
mutual
def m_impl_eachForm_rowsOk_1 (fuel : Nat) (x1 : Form) (o1 : Bool) (o2 : (List Form)) (o3 : (List Int)) (o4 : Int) : Option Bool :=
 match fuel with
 | 0 => none
 | fuel + 1 =>
 (m_impl_rowsOk_1 fuel x1 o1 o2 o3 o4).bind fun v1 =>
 m_impl_eachForm_rowsOk_1_l1 fuel x1 o2 o3 o4 0 v1
def m_impl_eachForm_rowsOk_1_l1 (fuel : Nat) (x1 : Form) (o2 : (List Form)) (o3 : (List Int)) (o4 : Int) (g2 : Int) (g3 : Bool) : Option Bool :=
 match fuel with
 | 0 => none
 | fuel + 1 =>
 (bif (decide (g2 < (x1.kids.length : Int))) then
 (idx x1.kids g2).bind fun v7 =>
 (m_impl_eachForm_rowsOk_1 fuel v7 g3 o2 o3 o4).bind fun v8 =>
 m_impl_eachForm_rowsOk_1_l1 fuel x1 o2 o3 o4 (g2 + 1) v8
 else
 some g3)
end
mutual
def m_impl_rowsOk (fuel : Nat) (x1 : Form) (x2 : (List Form)) (x3 : (List Int)) (x4 : Int) : Option Bool :=
 match fuel with
 | 0 => none
 | fuel + 1 =>
 (m_impl_depthIn fuel x2 x3 x1).bind fun v1 =>
 (bif (decide (x4 < v1)) then
 some false
 else
 m_impl_rowsOk_l1 fuel x1 x2 x3 x4 0)
def m_impl_rowsOk_l1 (fuel : Nat) (x1 : Form) (x2 : (List Form)) (x3 : (List Int)) (x4 : Int) (g3 : Int) : Option Bool :=
 match fuel with
 | 0 => none
 | fuel + 1 =>
 (bif (decide (g3 < (x1.kids.length : Int))) then
 (idx x1.kids g3).bind fun v7 =>
 (m_impl_named fuel v7 (⟨#[46, 46, 46]⟩ : ByteArray)).bind fun v8 =>
 (bif v8 then
 m_impl_rowsOk_l1 fuel x1 x2 x3 x4 (g3 + 1)
 else
 (bif (decide ((g3 + 1) < (x1.kids.length : Int))) then
 (idx x1.kids (g3 + 1)).bind fun v11 =>
 (m_impl_named fuel v11 (⟨#[46, 46, 46]⟩ : ByteArray)).bind fun v12 =>
 (bif v12 then
 (m_impl_eachForm_rowsOk_1 fuel v7 false x2 x3 x4).bind fun v14 =>
 (bif (!v14) then
 some false
 else
 (m_impl_rowsOk fuel v7 x2 x3 (w64 (x4 + 1))).bind fun v16 =>
 (bif (!v16) then
 some false
 else
 m_impl_rowsOk_l1 fuel x1 x2 x3 x4 (g3 + 1)))
 else
 (m_impl_rowsOk fuel v7 x2 x3 x4).bind fun v18 =>
 (bif (!v18) then
 some false
 else
 m_impl_rowsOk_l1 fuel x1 x2 x3 x4 (g3 + 1)))
 else
 (m_impl_rowsOk fuel v7 x2 x3 x4).bind fun v20 =>
 (bif (!v20) then
 some false
 else
 m_impl_rowsOk_l1 fuel x1 x2 x3 x4 (g3 + 1))))
 else
 some true)
end
def m_impl_templateOk (fuel : Nat) (x1 : Form) (x2 : (List Form)) (x3 : (List Int)) : Option Bool :=
 (m_impl_FormValid fuel x1).bind fun v1 =>
 (bif v1 then
 (m_impl_named fuel x1 (⟨#[46, 46, 46]⟩ : ByteArray)).bind fun v3 =>
 (bif (!v3) then
 (m_impl_dotsOk fuel x1 false).bind fun v5 =>
 (bif v5 then
 (m_impl_rowsOk fuel x1 x2 x3 0).bind fun v7 =>
 some v7
 else
 some false)
 else
 some false)
 else
 some false)
def m_impl_RuleValid (fuel : Nat) (x1 : Rule) (x2 : (List Form)) : Option Bool :=
 (m_impl_PatternValid fuel x1.pattern x2).bind fun v1 =>
 (bif (!v1) then
 some false
 else
 (bif (decide (x1.pattern.kind ≠ 3)) then
 some false
 else
 (bif (decide ((x1.pattern.kids.length : Int) = 0)) then
 some false
 else
 (m_impl_varsOf fuel x1.pattern x2).bind fun v5 =>
 (m_impl_templateOk fuel x1.template v5.1 v5.2).bind fun v6 =>
 some v6)))
def m_spec_RuleValid (fuel : Nat) (x1 : Rule) (x2 : (List Form)) : Option Bool :=
 (m_spec_l5Rule fuel x1 x2).bind fun v1 =>
 some v1
def m_laws_FnRuleVars_l1 (fuel : Nat) (v3 : Rule × (List Form)) (v10 : (List Form)) (v11 : (List Int)) (g12 : Int) : Option Bool :=
 match fuel with
 | 0 => none
 | fuel + 1 =>
 (bif (decide (g12 < (v10.length : Int))) then
 (idx v10 g12).bind fun v16 =>
 (m_impl_RuleValid fuel (Rule.mk v3.1.pattern v16) v3.2).bind fun v17 =>
 (idx v11 g12).bind fun v18 =>
 (bif (decide (v17 ≠ (decide (v18 = 0)))) then
 some false
 else
 m_laws_FnRuleVars_l1 fuel v3 v10 v11 (g12 + 1))
 else
 (m_impl_RuleValid fuel (Rule.mk v3.1.pattern (Form.mk 2 (⟨#[]⟩ : ByteArray) 0 ([] : List Int) ([] : List Form))) v3.2).bind fun v20 =>
 some v20)
def m_laws_FnRuleVars (fuel : Nat) (x1 : (List Int)) : Option Bool :=
 (bif (decide (1048576 < (x1.length : Int))) then
 some true
 else
 (m_spec_DrawRuleValid fuel x1).bind fun v3 =>
 (m_impl_RuleValid fuel v3.1 v3.2).bind fun v4 =>
 (m_spec_RuleValid fuel v3.1 v3.2).bind fun v5 =>
 (bif (decide (v4 ≠ v5)) then
 (m_spec_RuleValid fuel v3.1 v3.2).bind fun v7 =>
 some (decide (v4 = v7))
 else
 (bif (!v4) then
 (m_spec_RuleValid fuel v3.1 v3.2).bind fun v9 =>
 some (decide (v4 = v9))
 else
 (m_impl_PatternVars fuel v3.1.pattern v3.2).bind fun v10 =>
 (m_impl_VarDepths fuel v3.1.pattern v3.2).bind fun v11 =>
 m_laws_FnRuleVars_l1 fuel v3 v10 v11 0)))
def m_spec_DrawMatchPattern (fuel : Nat) (x1 : (List Int)) : Option ((List Bind) × Form × (List Form) × Form) :=
 (m_spec_l4Case fuel x1).bind fun v1 =>
 (m_spec_l15Open fuel x1).bind fun v2 =>
 (m_spec_l15Rd_pick fuel v2 4).bind fun v3 =>
 (bif (decide (v3.1 = 0)) then
 some ([(Bind.mk (⟨#[101, 108, 115, 101]⟩ : ByteArray) [1] 3)], v1.1, v1.2.1, v1.2.2)
 else
 some (([] : List Bind), v1.1, v1.2.1, v1.2.2))
mutual
def m_spec_BindsValid_l2 (fuel : Nat) (x1 : (List Bind)) (g1 : Int) (g15 : Int) : Option Bool :=
 match fuel with
 | 0 => none
 | fuel + 1 =>
 (bif (decide (g15 < g1)) then
 (idx x1 g15).bind fun v18 =>
 (idx x1 g1).bind fun v19 =>
 (bif (decide (v18.name = v19.name)) then
 (idx x1 g15).bind fun v21 =>
 (idx x1 g1).bind fun v22 =>
 (m_spec_l1Ints fuel v21.scopes v22.scopes).bind fun v23 =>
 (bif v23 then
 some false
 else
 m_spec_BindsValid_l2 fuel x1 g1 (w64 (g15 + 1)))
 else
 m_spec_BindsValid_l2 fuel x1 g1 (w64 (g15 + 1)))
 else
 m_spec_BindsValid_l1 fuel x1 (w64 (g1 + 1)))
def m_spec_BindsValid_l1 (fuel : Nat) (x1 : (List Bind)) (g1 : Int) : Option Bool :=
 match fuel with
 | 0 => none
 | fuel + 1 =>
 (bif (decide (g1 < (x1.length : Int))) then
 (bif (decide (g1 ≤ 60)) then
 (idx x1 g1).bind fun v5 =>
 (m_spec_NameValid fuel v5.name).bind fun v6 =>
 (bif (!v6) then
 some false
 else
 (idx x1 g1).bind fun v8 =>
 (m_spec_l1Scopes fuel v8.scopes).bind fun v9 =>
 (bif (!v9) then
 some false
 else
 (idx x1 g1).bind fun v11 =>
 (bif (decide (v11.id < 1)) then
 some false
 else
 (idx x1 g1).bind fun v13 =>
 (bif (decide (999 < v13.id)) then
 some false
 else
 m_spec_BindsValid_l2 fuel x1 g1 0))))
 else
 some (decide ((x1.length : Int) ≤ 60)))
 else
 some (decide ((x1.length : Int) ≤ 60)))
end
def m_spec_BindsValid (fuel : Nat) (x1 : (List Bind)) : Option Bool :=
 m_spec_BindsValid_l1 fuel x1 0
def m_spec_l2Has_l1 (fuel : Nat) (x1 : (List Int)) (x2 : Int) (g1 : Int) : Option Bool :=
 match fuel with
 | 0 => none
 | fuel + 1 =>
 (bif (decide (g1 < (x1.length : Int))) then
 (idx x1 g1).bind fun v5 =>
 (bif (decide (v5 = x2)) then
 some true
 else
 m_spec_l2Has_l1 fuel x1 x2 (g1 + 1))
 else
 some false)
def m_spec_l2Has (fuel : Nat) (x1 : (List Int)) (x2 : Int) : Option Bool :=
 m_spec_l2Has_l1 fuel x1 x2 0
def m_spec_ScopesWithin_l1 (fuel : Nat) (x1 : (List Int)) (x2 : (List Int)) (g1 : Int) : Option Bool :=
 match fuel with
 | 0 => none
 | fuel + 1 =>
 (bif (decide (g1 < (x1.length : Int))) then
 (idx x1 g1).bind fun v5 =>
 (m_spec_l2Has fuel x2 v5).bind fun v6 =>
 (bif (!v6) then
 some false
 else
 m_spec_ScopesWithin_l1 fuel x1 x2 (g1 + 1))
 else
 some true)
def m_spec_ScopesWithin (fuel : Nat) (x1 : (List Int)) (x2 : (List Int)) : Option Bool :=
 m_spec_ScopesWithin_l1 fuel x1 x2 0
def m_spec_l3Fitting_l1 (fuel : Nat) (x1 : (List Bind)) (x2 : Form) (g1 : (List Int)) (g2 : Int) : Option (List Int) :=
 match fuel with
 | 0 => none
 | fuel + 1 =>
 (bif (decide (g2 < (x1.length : Int))) then
 (idx x1 g2).bind fun v6 =>
 (bif (decide (v6.name = x2.name)) then
 (idx x1 g2).bind fun v8 =>
 (m_spec_ScopesWithin fuel v8.scopes x2.scopes).bind fun v9 =>
 (bif v9 then
 chk (decide ((g1.length + [g2].length) * 8 ≤ 140737488355328)) <|
 m_spec_l3Fitting_l1 fuel x1 x2 (g1 ++ [g2]) (g2 + 1)
 else
 m_spec_l3Fitting_l1 fuel x1 x2 g1 (g2 + 1))
 else
 m_spec_l3Fitting_l1 fuel x1 x2 g1 (g2 + 1))
 else
 some g1)
def m_spec_l3Fitting (fuel : Nat) (x1 : (List Bind)) (x2 : Form) : Option (List Int) :=
 m_spec_l3Fitting_l1 fuel x1 x2 ([] : List Int) 0
mutual
def m_spec_l3Find_l2 (fuel : Nat) (x1 : (List Bind)) (v1 : (List Int)) (g2 : Int) (g6 : Bool) (g7 : Int) : Option (Int × Int) :=
 match fuel with
 | 0 => none
 | fuel + 1 =>
 (bif (decide (g7 < (v1.length : Int))) then
 (bif g6 then
 (idx v1 g7).bind fun v11 =>
 (idx x1 v11).bind fun v12 =>
 (idx v1 g2).bind fun v13 =>
 (idx x1 v13).bind fun v14 =>
 (m_spec_ScopesWithin fuel v12.scopes v14.scopes).bind fun v15 =>
 m_spec_l3Find_l2 fuel x1 v1 g2 v15 (g7 + 1)
 else
 m_spec_l3Find_l2 fuel x1 v1 g2 false (g7 + 1))
 else
 (bif g6 then
 (idx v1 g2).bind fun v17 =>
 some (v17, 1)
 else
 m_spec_l3Find_l1 fuel x1 v1 (w64 (g2 + 1))))
def m_spec_l3Find_l1 (fuel : Nat) (x1 : (List Bind)) (v1 : (List Int)) (g2 : Int) : Option (Int × Int) :=
 match fuel with
 | 0 => none
 | fuel + 1 =>
 (bif (decide (g2 < (v1.length : Int))) then
 m_spec_l3Find_l2 fuel x1 v1 g2 true 0
 else
 (bif (decide (0 < (v1.length : Int))) then
 some (0, 2)
 else
 some (0, 0)))
end
def m_spec_l3Find (fuel : Nat) (x1 : (List Bind)) (x2 : Form) : Option (Int × Int) :=
 (m_spec_l3Fitting fuel x1 x2).bind fun v1 =>
 m_spec_l3Find_l1 fuel x1 v1 0
def m_spec_l3Same (fuel : Nat) (x1 : (List Bind)) (x2 : Form) (x3 : Form) : Option Bool :=
 (m_spec_l3Find fuel x1 x2).bind fun v1 =>
 (m_spec_l3Find fuel x1 x3).bind fun v2 =>
 (bif (decide (v1.2 ≠ v2.2)) then
 some false
 else
 (bif (decide (v1.2 = 2)) then
 some false
 else
 (bif (decide (v1.2 = 0)) then
 some (decide (x2.name = x3.name))
 else
 (idx x1 v1.1).bind fun v6 =>
 (idx x1 v2.1).bind fun v7 =>
 some (decide (v6.id = v7.id)))))
mutual
def m_spec_l4Row_l2 (fuel : Nat) (x3 : (List (List Hit))) (v1 : (List Form)) (v2 : (List Int)) (g3 : (List Hit)) (g4 : Int) (v8 : Form) (v9 : Int) (g10 : Int) (g11 : (List Hit)) : Option (List Hit) :=
 match fuel with
 | 0 => none
 | fuel + 1 =>
 (bif (decide (g10 < (x3.length : Int))) then
 (idx x3 g10).bind fun v15 =>
 (idx v15 g4).bind fun v16 =>
 chk (decide ((g11.length + [v16].length) * 192 ≤ 140737488355328)) <|
 m_spec_l4Row_l2 fuel x3 v1 v2 g3 g4 v8 v9 (g10 + 1) (g11 ++ [v16])
 else
 chk (decide ((g3.length + [(Hit.mk v8 (w64 (v9 + 1)) (Form.mk 0 (⟨#[]⟩ : ByteArray) 0 ([] : List Int) ([] : List Form)) g11)].length) * 192 ≤ 140737488355328)) <|
 m_spec_l4Row_l1 fuel x3 v1 v2 (g3 ++ [(Hit.mk v8 (w64 (v9 + 1)) (Form.mk 0 (⟨#[]⟩ : ByteArray) 0 ([] : List Int) ([] : List Form)) g11)]) (w64 (g4 + 1)))
def m_spec_l4Row_l1 (fuel : Nat) (x3 : (List (List Hit))) (v1 : (List Form)) (v2 : (List Int)) (g3 : (List Hit)) (g4 : Int) : Option (List Hit) :=
 match fuel with
 | 0 => none
 | fuel + 1 =>
 (bif (decide (g4 < (v1.length : Int))) then
 (idx v1 g4).bind fun v8 =>
 (idx v2 g4).bind fun v9 =>
 m_spec_l4Row_l2 fuel x3 v1 v2 g3 g4 v8 v9 0 ([] : List Hit)
 else
 some g3)
end
def m_spec_l4Row (fuel : Nat) (x1 : Form) (x2 : (List Form)) (x3 : (List (List Hit))) : Option (List Hit) :=
 (m_spec_l4Vars fuel ([] : List Form) x1 x2).bind fun v1 =>
 (m_spec_l4Depths fuel ([] : List Int) x1 x2 0).bind fun v2 =>
 m_spec_l4Row_l1 fuel x3 v1 v2 ([] : List Hit) 0
mutual
def m_spec_l4List (fuel : Nat) (x1 : (List Bind)) (x2 : (List Form)) (x3 : (List Form)) (x4 : (List Form)) : Option ((List Hit) × Bool) :=
 match fuel with
 | 0 => none
 | fuel + 1 =>
 m_spec_l4List_l1 fuel x1 x2 x3 x4 (-1) 0
def m_spec_l4List_l3 (fuel : Nat) (x1 : (List Bind)) (x2 : (List Form)) (x3 : (List Form)) (x4 : (List Form)) (g1 : Int) (g12 : Int) (g13 : (List Hit)) (g27 : Int) (g28 : (List (List Hit))) (g29 : Int) : Option ((List Hit) × Bool) :=
 match fuel with
 | 0 => none
 | fuel + 1 =>
 (bif (decide (0 < g29)) then
 (idx x2 g12).bind fun v32 =>
 (idx x4 g27).bind fun v33 =>
 (m_spec_l4Match fuel x1 v32 x3 v33).bind fun v34 =>
 (bif (!v34.2) then
 some (g13, false)
 else
 chk (decide ((g28.length + [v34.1].length) * 24 ≤ 140737488355328)) <|
 m_spec_l4List_l3 fuel x1 x2 x3 x4 g1 g12 g13 (w64 (g27 + 1)) (g28 ++ [v34.1]) (w64 (g29 - 1)))
 else
 (idx x2 g12).bind fun v37 =>
 (m_spec_l4Row fuel v37 x3 g28).bind fun v38 =>
 chk (decide ((g13.length + v38.length) * 192 ≤ 140737488355328)) <|
 m_spec_l4List_l2 fuel x1 x2 x3 x4 g1 (w64 (g12 + 1)) (g13 ++ v38) g27)
def m_spec_l4List_l2 (fuel : Nat) (x1 : (List Bind)) (x2 : (List Form)) (x3 : (List Form)) (x4 : (List Form)) (g1 : Int) (g12 : Int) (g13 : (List Hit)) (g14 : Int) : Option ((List Hit) × Bool) :=
 match fuel with
 | 0 => none
 | fuel + 1 =>
 (bif (decide (g12 < (x2.length : Int))) then
 (idx x2 g12).bind fun v18 =>
 (m_spec_l4Dots fuel v18).bind fun v19 =>
 (bif v19 then
 m_spec_l4List_l2 fuel x1 x2 x3 x4 g1 (g12 + 1) g13 g14
 else
 (bif (decide (g12 ≠ g1)) then
 (idx x2 g12).bind fun v22 =>
 (idx x4 g14).bind fun v23 =>
 (m_spec_l4Match fuel x1 v22 x3 v23).bind fun v24 =>
 (bif (!v24.2) then
 some (g13, false)
 else
 chk (decide ((g13.length + v24.1.length) * 192 ≤ 140737488355328)) <|
 m_spec_l4List_l2 fuel x1 x2 x3 x4 g1 (g12 + 1) (g13 ++ v24.1) (w64 (g14 + 1)))
 else
 m_spec_l4List_l3 fuel x1 x2 x3 x4 g1 g12 g13 g14 ([] : List (List Hit)) (w64 ((x4.length : Int) - (w64 ((x2.length : Int) - 2))))))
 else
 some (g13, true))
def m_spec_l4List_l5 (fuel : Nat) (x1 : (List Bind)) (x2 : (List Form)) (x3 : (List Form)) (x4 : (List Form)) (g1 : Int) (g40 : Int) (g41 : (List Hit)) (g55 : Int) (g56 : (List (List Hit))) (g57 : Int) : Option ((List Hit) × Bool) :=
 match fuel with
 | 0 => none
 | fuel + 1 =>
 (bif (decide (0 < g57)) then
 (idx x2 g40).bind fun v60 =>
 (idx x4 g55).bind fun v61 =>
 (m_spec_l4Match fuel x1 v60 x3 v61).bind fun v62 =>
 (bif (!v62.2) then
 some (g41, false)
 else
 chk (decide ((g56.length + [v62.1].length) * 24 ≤ 140737488355328)) <|
 m_spec_l4List_l5 fuel x1 x2 x3 x4 g1 g40 g41 (w64 (g55 + 1)) (g56 ++ [v62.1]) (w64 (g57 - 1)))
 else
 (idx x2 g40).bind fun v65 =>
 (m_spec_l4Row fuel v65 x3 g56).bind fun v66 =>
 chk (decide ((g41.length + v66.length) * 192 ≤ 140737488355328)) <|
 m_spec_l4List_l4 fuel x1 x2 x3 x4 g1 (w64 (g40 + 1)) (g41 ++ v66) g55)
def m_spec_l4List_l4 (fuel : Nat) (x1 : (List Bind)) (x2 : (List Form)) (x3 : (List Form)) (x4 : (List Form)) (g1 : Int) (g40 : Int) (g41 : (List Hit)) (g42 : Int) : Option ((List Hit) × Bool) :=
 match fuel with
 | 0 => none
 | fuel + 1 =>
 (bif (decide (g40 < (x2.length : Int))) then
 (idx x2 g40).bind fun v46 =>
 (m_spec_l4Dots fuel v46).bind fun v47 =>
 (bif v47 then
 m_spec_l4List_l4 fuel x1 x2 x3 x4 g1 (g40 + 1) g41 g42
 else
 (bif (decide (g40 ≠ g1)) then
 (idx x2 g40).bind fun v50 =>
 (idx x4 g42).bind fun v51 =>
 (m_spec_l4Match fuel x1 v50 x3 v51).bind fun v52 =>
 (bif (!v52.2) then
 some (g41, false)
 else
 chk (decide ((g41.length + v52.1.length) * 192 ≤ 140737488355328)) <|
 m_spec_l4List_l4 fuel x1 x2 x3 x4 g1 (g40 + 1) (g41 ++ v52.1) (w64 (g42 + 1)))
 else
 m_spec_l4List_l5 fuel x1 x2 x3 x4 g1 g40 g41 g42 ([] : List (List Hit)) (w64 ((x4.length : Int) - (w64 ((x2.length : Int) - 2))))))
 else
 some (g41, true))
def m_spec_l4List_l7 (fuel : Nat) (x1 : (List Bind)) (x2 : (List Form)) (x3 : (List Form)) (x4 : (List Form)) (g1 : Int) (g70 : Int) (g71 : (List Hit)) (g85 : Int) (g86 : (List (List Hit))) (g87 : Int) : Option ((List Hit) × Bool) :=
 match fuel with
 | 0 => none
 | fuel + 1 =>
 (bif (decide (0 < g87)) then
 (idx x2 g70).bind fun v90 =>
 (idx x4 g85).bind fun v91 =>
 (m_spec_l4Match fuel x1 v90 x3 v91).bind fun v92 =>
 (bif (!v92.2) then
 some (g71, false)
 else
 chk (decide ((g86.length + [v92.1].length) * 24 ≤ 140737488355328)) <|
 m_spec_l4List_l7 fuel x1 x2 x3 x4 g1 g70 g71 (w64 (g85 + 1)) (g86 ++ [v92.1]) (w64 (g87 - 1)))
 else
 (idx x2 g70).bind fun v95 =>
 (m_spec_l4Row fuel v95 x3 g86).bind fun v96 =>
 chk (decide ((g71.length + v96.length) * 192 ≤ 140737488355328)) <|
 m_spec_l4List_l6 fuel x1 x2 x3 x4 g1 (w64 (g70 + 1)) (g71 ++ v96) g85)
def m_spec_l4List_l6 (fuel : Nat) (x1 : (List Bind)) (x2 : (List Form)) (x3 : (List Form)) (x4 : (List Form)) (g1 : Int) (g70 : Int) (g71 : (List Hit)) (g72 : Int) : Option ((List Hit) × Bool) :=
 match fuel with
 | 0 => none
 | fuel + 1 =>
 (bif (decide (g70 < (x2.length : Int))) then
 (idx x2 g70).bind fun v76 =>
 (m_spec_l4Dots fuel v76).bind fun v77 =>
 (bif v77 then
 m_spec_l4List_l6 fuel x1 x2 x3 x4 g1 (g70 + 1) g71 g72
 else
 (bif (decide (g70 ≠ g1)) then
 (idx x2 g70).bind fun v80 =>
 (idx x4 g72).bind fun v81 =>
 (m_spec_l4Match fuel x1 v80 x3 v81).bind fun v82 =>
 (bif (!v82.2) then
 some (g71, false)
 else
 chk (decide ((g71.length + v82.1.length) * 192 ≤ 140737488355328)) <|
 m_spec_l4List_l6 fuel x1 x2 x3 x4 g1 (g70 + 1) (g71 ++ v82.1) (w64 (g72 + 1)))
 else
 m_spec_l4List_l7 fuel x1 x2 x3 x4 g1 g70 g71 g72 ([] : List (List Hit)) (w64 ((x4.length : Int) - (w64 ((x2.length : Int) - 2))))))
 else
 some (g71, true))
def m_spec_l4List_l9 (fuel : Nat) (x1 : (List Bind)) (x2 : (List Form)) (x3 : (List Form)) (x4 : (List Form)) (g1 : Int) (g98 : Int) (g99 : (List Hit)) (g113 : Int) (g114 : (List (List Hit))) (g115 : Int) : Option ((List Hit) × Bool) :=
 match fuel with
 | 0 => none
 | fuel + 1 =>
 (bif (decide (0 < g115)) then
 (idx x2 g98).bind fun v118 =>
 (idx x4 g113).bind fun v119 =>
 (m_spec_l4Match fuel x1 v118 x3 v119).bind fun v120 =>
 (bif (!v120.2) then
 some (g99, false)
 else
 chk (decide ((g114.length + [v120.1].length) * 24 ≤ 140737488355328)) <|
 m_spec_l4List_l9 fuel x1 x2 x3 x4 g1 g98 g99 (w64 (g113 + 1)) (g114 ++ [v120.1]) (w64 (g115 - 1)))
 else
 (idx x2 g98).bind fun v123 =>
 (m_spec_l4Row fuel v123 x3 g114).bind fun v124 =>
 chk (decide ((g99.length + v124.length) * 192 ≤ 140737488355328)) <|
 m_spec_l4List_l8 fuel x1 x2 x3 x4 g1 (w64 (g98 + 1)) (g99 ++ v124) g113)
def m_spec_l4List_l8 (fuel : Nat) (x1 : (List Bind)) (x2 : (List Form)) (x3 : (List Form)) (x4 : (List Form)) (g1 : Int) (g98 : Int) (g99 : (List Hit)) (g100 : Int) : Option ((List Hit) × Bool) :=
 match fuel with
 | 0 => none
 | fuel + 1 =>
 (bif (decide (g98 < (x2.length : Int))) then
 (idx x2 g98).bind fun v104 =>
 (m_spec_l4Dots fuel v104).bind fun v105 =>
 (bif v105 then
 m_spec_l4List_l8 fuel x1 x2 x3 x4 g1 (g98 + 1) g99 g100
 else
 (bif (decide (g98 ≠ g1)) then
 (idx x2 g98).bind fun v108 =>
 (idx x4 g100).bind fun v109 =>
 (m_spec_l4Match fuel x1 v108 x3 v109).bind fun v110 =>
 (bif (!v110.2) then
 some (g99, false)
 else
 chk (decide ((g99.length + v110.1.length) * 192 ≤ 140737488355328)) <|
 m_spec_l4List_l8 fuel x1 x2 x3 x4 g1 (g98 + 1) (g99 ++ v110.1) (w64 (g100 + 1)))
 else
 m_spec_l4List_l9 fuel x1 x2 x3 x4 g1 g98 g99 g100 ([] : List (List Hit)) (w64 ((x4.length : Int) - (w64 ((x2.length : Int) - 2))))))
 else
 some (g99, true))
def m_spec_l4List_l1 (fuel : Nat) (x1 : (List Bind)) (x2 : (List Form)) (x3 : (List Form)) (x4 : (List Form)) (g1 : Int) (g2 : Int) : Option ((List Hit) × Bool) :=
 match fuel with
 | 0 => none
 | fuel + 1 =>
 (bif (decide ((w64 (g2 + 1)) < (x2.length : Int))) then
 (idx x2 (w64 (g2 + 1))).bind fun v5 =>
 (m_spec_l4Dots fuel v5).bind fun v6 =>
 (bif v6 then
 m_spec_l4List_l1 fuel x1 x2 x3 x4 g2 (w64 (g2 + 1))
 else
 m_spec_l4List_l1 fuel x1 x2 x3 x4 g1 (w64 (g2 + 1)))
 else
 (bif (decide (g1 < 0)) then
 (bif (decide ((x2.length : Int) ≠ (x4.length : Int))) then
 some (([] : List Hit), false)
 else
 (bif (decide (0 ≤ g1)) then
 (bif (decide ((x4.length : Int) < (w64 ((x2.length : Int) - 2)))) then
 some (([] : List Hit), false)
 else
 m_spec_l4List_l2 fuel x1 x2 x3 x4 g1 0 ([] : List Hit) 0)
 else
 m_spec_l4List_l4 fuel x1 x2 x3 x4 g1 0 ([] : List Hit) 0))
 else
 (bif (decide (0 ≤ g1)) then
 (bif (decide ((x4.length : Int) < (w64 ((x2.length : Int) - 2)))) then
 some (([] : List Hit), false)
 else
 m_spec_l4List_l6 fuel x1 x2 x3 x4 g1 0 ([] : List Hit) 0)
 else
 m_spec_l4List_l8 fuel x1 x2 x3 x4 g1 0 ([] : List Hit) 0)))
def m_spec_l4Match (fuel : Nat) (x1 : (List Bind)) (x2 : Form) (x3 : (List Form)) (x4 : Form) : Option ((List Hit) × Bool) :=
 match fuel with
 | 0 => none
 | fuel + 1 =>
 (bif (decide (x2.kind = 1)) then
 (bif (decide (x2.name = (⟨#[95]⟩ : ByteArray))) then
 some (([] : List Hit), true)
 else
 (m_spec_l4In fuel x3 x2).bind fun v3 =>
 (bif v3 then
 (bif (decide (x4.kind = 1)) then
 (m_spec_l3Same fuel x1 x2 x4).bind fun v6 =>
 some (([] : List Hit), v6)
 else
 some (([] : List Hit), false))
 else
 chk (decide ((([] : List Hit).length + [(Hit.mk x2 0 x4 ([] : List Hit))].length) * 192 ≤ 140737488355328)) <|
 some ((([] : List Hit) ++ [(Hit.mk x2 0 x4 ([] : List Hit))]), true)))
 else
 (bif (decide (x2.kind = 2)) then
 (m_spec_FormSame fuel x2 x4).bind fun v9 =>
 some (([] : List Hit), v9)
 else
 (bif (decide (x4.kind ≠ 3)) then
 some (([] : List Hit), false)
 else
 (m_spec_l4List fuel x1 x2.kids x3 x4.kids).bind fun v11 =>
 some (v11.1, v11.2))))
end
mutual
def m_spec_l4CopyHit (fuel : Nat) (x1 : Hit) : Option Hit :=
 match fuel with
 | 0 => none
 | fuel + 1 =>
 (m_spec_l1Copy fuel x1.name).bind fun v1 =>
 (m_spec_l1Copy fuel x1.one).bind fun v2 =>
 m_spec_l4CopyHit_l1 fuel x1 v1 v2 0 ([] : List Hit)
def m_spec_l4CopyHit_l1 (fuel : Nat) (x1 : Hit) (v1 : Form) (v2 : Form) (g3 : Int) (g4 : (List Hit)) : Option Hit :=
 match fuel with
 | 0 => none
 | fuel + 1 =>
 (bif (decide (g3 < (x1.many.length : Int))) then
 (idx x1.many g3).bind fun v8 =>
 (m_spec_l4CopyHit fuel v8).bind fun v9 =>
 chk (decide ((g4.length + [v9].length) * 192 ≤ 140737488355328)) <|
 m_spec_l4CopyHit_l1 fuel x1 v1 v2 (g3 + 1) (g4 ++ [v9])
 else
 some (Hit.mk v1 x1.depth v2 g4))
end
def m_spec_l4Copy_l1 (fuel : Nat) (x1 : (List Hit)) (g1 : (List Hit)) (g2 : Int) : Option (List Hit) :=
 match fuel with
 | 0 => none
 | fuel + 1 =>
 (bif (decide (g2 < (x1.length : Int))) then
 (idx x1 g2).bind fun v6 =>
 (m_spec_l4CopyHit fuel v6).bind fun v7 =>
 chk (decide ((g1.length + [v7].length) * 192 ≤ 140737488355328)) <|
 m_spec_l4Copy_l1 fuel x1 (g1 ++ [v7]) (g2 + 1)
 else
 some g1)
def m_spec_l4Copy (fuel : Nat) (x1 : (List Hit)) : Option (List Hit) :=
 m_spec_l4Copy_l1 fuel x1 ([] : List Hit) 0
def m_spec_MatchPattern (fuel : Nat) (x1 : (List Bind)) (x2 : Form) (x3 : (List Form)) (x4 : Form) : Option ((List Hit) × Bool) :=
 (m_spec_BindsValid fuel x1).bind fun v1 =>
 (bif (!v1) then
 some (([] : List Hit), false)
 else
 (m_spec_l4Is fuel x2 x3).bind fun v3 =>
 (bif (!v3) then
 some (([] : List Hit), false)
 else
 (m_spec_FormValid fuel x4).bind fun v5 =>
 (bif (!v5) then
 some (([] : List Hit), false)
 else
 (m_spec_l4Match fuel x1 x2 x3 x4).bind fun v7 =>
 (bif (!v7.2) then
 some (([] : List Hit), false)
 else
 (m_spec_l4Copy fuel v7.1).bind fun v9 =>
 some (v9, true)))))
def m_spec_l4Hits (fuel : Nat) (x1 : (List Int)) : Option (List Hit) :=
 (m_spec_DrawMatchPattern fuel x1).bind fun v1 =>
 (m_spec_MatchPattern fuel v1.1 v1.2.1 v1.2.2.1 v1.2.2.2).bind fun v2 =>
 (m_spec_l15Open fuel x1).bind fun v3 =>
 (bif (decide ((v2.1.length : Int) = 0)) then
 some v2.1
 else
 (m_spec_l15Rd_pick fuel v3 (v2.1.length : Int)).bind fun v5 =>
 (m_spec_l15Rd_pick fuel v5.2 16).bind fun v6 =>
 (bif (decide (v6.1 = 0)) then
 (m_spec_l15Rd_num fuel v6.2 [0, 1, 2, 4, (-1)]).bind fun v8 =>
 (idx v2.1 v5.1).bind fun v9 =>
 some (v2.1.set v5.1.toNat (Hit.mk v9.name v8.1 v9.one v9.many))
 else
 (bif (decide (v6.1 = 1)) then
 (idx v2.1 v5.1).bind fun v11 =>
 (m_spec_l1Mutate fuel v6.2 v11.name).bind fun v12 =>
 (m_spec_l1Mutate fuel v12.2 v12.1).bind fun v13 =>
 (idx v2.1 v5.1).bind fun v14 =>
 some (v2.1.set v5.1.toNat (Hit.mk v13.1 v14.depth v14.one v14.many))
 else
 (bif (decide (v6.1 = 2)) then
 (idx v2.1 v5.1).bind fun v16 =>
 chk (decide ((v2.1.length + [v16].length) * 192 ≤ 140737488355328)) <|
 some (v2.1 ++ [v16])
 else
 some v2.1))))
def m_spec_DrawHitsSame (fuel : Nat) (x1 : (List Int)) : Option ((List Hit) × (List Hit)) :=
 (m_spec_l4Hits fuel x1).bind fun v1 =>
 (m_spec_l15Open fuel x1).bind fun v2 =>
 (m_spec_l15Rd_pick fuel v2 2).bind fun v3 =>
 (bif (decide (v3.1 = 0)) then
 (m_spec_l4Copy fuel v1).bind fun v5 =>
 some (v1, v5)
 else
 (m_spec_l4Copy fuel v1).bind fun v6 =>
 (bif (decide (0 < (v6.length : Int))) then
 (sub v6 0 (w64 ((v6.length : Int) - 1))).bind fun v9 =>
 some (v1, v9)
 else
 some (v1, v6)))
mutual
def m_impl_hitSame (fuel : Nat) (x1 : Hit) (x2 : Hit) : Option Bool :=
 match fuel with
 | 0 => none
 | fuel + 1 =>
 (m_impl_FormSame fuel x1.name x2.name).bind fun v1 =>
 (bif v1 then
 (bif (decide (x1.depth = x2.depth)) then
 (m_impl_FormSame fuel x1.one x2.one).bind fun v4 =>
 (bif v4 then
 (m_slices_EqualFunc_Hit_hitSame fuel x1.many x2.many).bind fun v6 =>
 some v6
 else
 some false)
 else
 some false)
 else
 some false)
def m_slices_EqualFunc_Hit_hitSame (fuel : Nat) (x1 : (List Hit)) (x2 : (List Hit)) : Option Bool :=
 match fuel with
 | 0 => none
 | fuel + 1 =>
 (bif (decide ((x1.length : Int) ≠ (x2.length : Int))) then
 some false
 else
 m_slices_EqualFunc_Hit_hitSame_l1 fuel x1 x2 0)
def m_slices_EqualFunc_Hit_hitSame_l1 (fuel : Nat) (x1 : (List Hit)) (x2 : (List Hit)) (g2 : Int) : Option Bool :=
 match fuel with
 | 0 => none
 | fuel + 1 =>
 (bif (decide (g2 < (x1.length : Int))) then
 (idx x1 g2).bind fun v6 =>
 (idx x2 g2).bind fun v7 =>
 (m_impl_hitSame fuel v6 v7).bind fun v8 =>
 (bif (!v8) then
 some false
 else
 m_slices_EqualFunc_Hit_hitSame_l1 fuel x1 x2 (g2 + 1))
 else
 some true)
end
def m_impl_HitsSame (fuel : Nat) (x1 : (List Hit)) (x2 : (List Hit)) : Option Bool :=
 (m_slices_EqualFunc_Hit_hitSame fuel x1 x2).bind fun v1 =>
 some v1
mutual
def m_spec_HitsSame (fuel : Nat) (x1 : (List Hit)) (x2 : (List Hit)) : Option Bool :=
 match fuel with
 | 0 => none
 | fuel + 1 =>
 (bif (decide ((x1.length : Int) ≠ (x2.length : Int))) then
 some false
 else
 m_spec_HitsSame_l1 fuel x1 x2 0)
def m_spec_HitsSame_l1 (fuel : Nat) (x1 : (List Hit)) (x2 : (List Hit)) (g2 : Int) : Option Bool :=
 match fuel with
 | 0 => none
 | fuel + 1 =>
 (bif (decide (g2 < (x1.length : Int))) then
 (idx x1 g2).bind fun v6 =>
 (idx x2 g2).bind fun v7 =>
 (m_spec_FormSame fuel v6.name v7.name).bind fun v8 =>
 (bif (!v8) then
 some false
 else
 (idx x1 g2).bind fun v10 =>
 (idx x2 g2).bind fun v11 =>
 (bif (decide (v10.depth ≠ v11.depth)) then
 some false
 else
 (idx x1 g2).bind fun v13 =>
 (idx x2 g2).bind fun v14 =>
 (m_spec_FormSame fuel v13.one v14.one).bind fun v15 =>
 (bif (!v15) then
 some false
 else
 (idx x1 g2).bind fun v17 =>
 (idx x2 g2).bind fun v18 =>
 (m_spec_HitsSame fuel v17.many v18.many).bind fun v19 =>
 (bif (!v19) then
 some false
 else
 m_spec_HitsSame_l1 fuel x1 x2 (g2 + 1)))))
 else
 some true)
end
mutual
def m_impl_hitOk (fuel : Nat) (x1 : Hit) : Option Bool :=
 match fuel with
 | 0 => none
 | fuel + 1 =>
 (m_impl_isName fuel x1.name).bind fun v1 =>
 (bif (!v1) then
 some false
 else
 (bif (decide (x1.name.name = (⟨#[46, 46, 46]⟩ : ByteArray))) then
 some false
 else
 (bif (decide (x1.name.name = (⟨#[95]⟩ : ByteArray))) then
 some false
 else
 (m_impl_within fuel x1.depth 0 3).bind fun v5 =>
 (bif (!v5) then
 some false
 else
 (bif (decide (x1.depth = 0)) then
 (m_impl_FormValid fuel x1.one).bind fun v8 =>
 (bif v8 then
 some (decide ((x1.many.length : Int) = 0))
 else
 some false)
 else
 (m_impl_FormSame fuel x1.one (Form.mk 0 (⟨#[]⟩ : ByteArray) 0 ([] : List Int) ([] : List Form))).bind fun v10 =>
 (bif v10 then
 (bif (decide ((x1.many.length : Int) ≤ 400)) then
 (m_slices_ContainsFunc_Hit_hitOk_1 fuel x1.many x1).bind fun v13 =>
 some (!v13)
 else
 some false)
 else
 some false))))))
def m_impl_hitOk_1 (fuel : Nat) (x1 : Hit) (o1 : Hit) : Option Bool :=
 match fuel with
 | 0 => none
 | fuel + 1 =>
 (m_impl_FormSame fuel x1.name o1.name).bind fun v1 =>
 (bif (!v1) then
 some true
 else
 (bif (decide (x1.depth ≠ (w64 (o1.depth - 1)))) then
 some true
 else
 (m_impl_hitOk fuel x1).bind fun v4 =>
 some (!v4)))
def m_slices_ContainsFunc_Hit_hitOk_1 (fuel : Nat) (x1 : (List Hit)) (o1 : Hit) : Option Bool :=
 match fuel with
 | 0 => none
 | fuel + 1 =>
 (m_slices_IndexFunc_Hit_hitOk_1 fuel x1 o1).bind fun v1 =>
 some (decide (0 ≤ v1))
def m_slices_IndexFunc_Hit_hitOk_1 (fuel : Nat) (x1 : (List Hit)) (o1 : Hit) : Option Int :=
 match fuel with
 | 0 => none
 | fuel + 1 =>
 m_slices_IndexFunc_Hit_hitOk_1_l1 fuel x1 o1 0
def m_slices_IndexFunc_Hit_hitOk_1_l1 (fuel : Nat) (x1 : (List Hit)) (o1 : Hit) (g1 : Int) : Option Int :=
 match fuel with
 | 0 => none
 | fuel + 1 =>
 (bif (decide (g1 < (x1.length : Int))) then
 (idx x1 g1).bind fun v5 =>
 (m_impl_hitOk_1 fuel v5 o1).bind fun v6 =>
 (bif v6 then
 some g1
 else
 m_slices_IndexFunc_Hit_hitOk_1_l1 fuel x1 o1 (g1 + 1))
 else
 some (-1))
end
mutual
def m_impl_hitForms (fuel : Nat) (x1 : Hit) (x2 : (List Form)) : Option (List Form) :=
 match fuel with
 | 0 => none
 | fuel + 1 =>
 (bif (decide (x1.depth = 0)) then
 (m_impl_copyForm fuel x1.one).bind fun v2 =>
 chk (decide ((x2.length + [v2].length) * 80 ≤ 140737488355328)) <|
 some (x2 ++ [v2])
 else
 m_impl_hitForms_l1 fuel x1 x2 0)
def m_impl_hitForms_l1 (fuel : Nat) (x1 : Hit) (g4 : (List Form)) (g5 : Int) : Option (List Form) :=
 match fuel with
 | 0 => none
 | fuel + 1 =>
 (bif (decide (g5 < (x1.many.length : Int))) then
 (idx x1.many g5).bind fun v9 =>
 (m_impl_hitForms fuel v9 g4).bind fun v10 =>
 m_impl_hitForms_l1 fuel x1 v10 (g5 + 1)
 else
 some g4)
end
def m_impl_hitForms_n (fuel : Nat) (x1 : Hit) : Option (List Form) :=
 (bif (decide (x1.depth = 0)) then
 (m_impl_copyForm fuel x1.one).bind fun v2 =>
 chk (decide ([v2].length * 80 ≤ 140737488355328)) <|
 some [v2]
 else
 m_impl_hitForms_l1 fuel x1 ([] : List Form) 0)
def m_impl_HitForms (fuel : Nat) (x1 : Hit) : Option (List Form) :=
 (m_impl_hitOk fuel x1).bind fun v1 =>
 (bif (!v1) then
 some ([] : List Form)
 else
 (m_impl_hitForms_n fuel x1).bind fun v3 =>
 some v3)
def m_laws_FnHitsSame_l1 (fuel : Nat) (v3 : (List Hit) × (List Hit)) (v4 : Bool) (g11 : Int) : Option Bool :=
 match fuel with
 | 0 => none
 | fuel + 1 =>
 (bif (decide (g11 < (v3.1.length : Int))) then
 (bif v4 then
 (idx v3.1 g11).bind fun v15 =>
 (m_impl_HitForms fuel v15).bind fun v16 =>
 (idx v3.2 g11).bind fun v17 =>
 (m_impl_HitForms fuel v17).bind fun v18 =>
 (m_laws_mxForms fuel v16 v18).bind fun v19 =>
 (bif (!v19) then
 some false
 else
 m_laws_FnHitsSame_l1 fuel v3 v4 (w64 (g11 + 1)))
 else
 some true)
 else
 some true)
def m_laws_FnHitsSame (fuel : Nat) (x1 : (List Int)) : Option Bool :=
 (bif (decide (1048576 < (x1.length : Int))) then
 some true
 else
 (m_spec_DrawHitsSame fuel x1).bind fun v3 =>
 (m_impl_HitsSame fuel v3.1 v3.2).bind fun v4 =>
 (m_spec_HitsSame fuel v3.1 v3.2).bind fun v5 =>
 (bif (decide (v4 ≠ v5)) then
 some false
 else
 (m_impl_HitsSame fuel v3.2 v3.1).bind fun v7 =>
 (bif (decide (v4 ≠ v7)) then
 some false
 else
 (m_impl_HitsSame fuel v3.1 v3.1).bind fun v9 =>
 (bif (!v9) then
 some false
 else
 m_laws_FnHitsSame_l1 fuel v3 v4 0))))
def m_spec_DrawHitsValid (fuel : Nat) (x1 : (List Int)) : Option (List Hit) :=
 (m_spec_l4Hits fuel x1).bind fun v1 =>
 some v1
def m_impl_hitAt_1 (fuel : Nat) (x1 : Hit) (o1 : Form) : Option Bool :=
 (m_impl_FormSame fuel x1.name o1).bind fun v1 =>
 some v1
def m_slices_IndexFunc_Hit_hitAt_1_l1 (fuel : Nat) (x1 : (List Hit)) (o1 : Form) (g1 : Int) : Option Int :=
 match fuel with
 | 0 => none
 | fuel + 1 =>
 (bif (decide (g1 < (x1.length : Int))) then
 (idx x1 g1).bind fun v5 =>
 (m_impl_hitAt_1 fuel v5 o1).bind fun v6 =>
 (bif v6 then
 some g1
 else
 m_slices_IndexFunc_Hit_hitAt_1_l1 fuel x1 o1 (g1 + 1))
 else
 some (-1))
def m_slices_IndexFunc_Hit_hitAt_1 (fuel : Nat) (x1 : (List Hit)) (o1 : Form) : Option Int :=
 m_slices_IndexFunc_Hit_hitAt_1_l1 fuel x1 o1 0
def m_impl_hitAt (fuel : Nat) (x1 : (List Hit)) (x2 : Form) : Option Int :=
 (m_slices_IndexFunc_Hit_hitAt_1 fuel x1 x2).bind fun v1 =>
 some v1
def m_impl_HitsValid_l1 (fuel : Nat) (x1 : (List Hit)) (g1 : Int) : Option Bool :=
 match fuel with
 | 0 => none
 | fuel + 1 =>
 (bif (decide (g1 < (x1.length : Int))) then
 (idx x1 g1).bind fun v5 =>
 (m_impl_hitOk fuel v5).bind fun v6 =>
 (bif (!v6) then
 some false
 else
 (sub x1 0 g1).bind fun v8 =>
 (m_impl_hitAt fuel v8 v5.name).bind fun v9 =>
 (bif (decide (0 ≤ v9)) then
 some false
 else
 m_impl_HitsValid_l1 fuel x1 (g1 + 1)))
 else
 some (decide ((x1.length : Int) ≤ 20)))
def m_impl_HitsValid (fuel : Nat) (x1 : (List Hit)) : Option Bool :=
 m_impl_HitsValid_l1 fuel x1 0
mutual
def m_spec_l4Hit (fuel : Nat) (x1 : Hit) (x2 : Int) : Option Bool :=
 match fuel with
 | 0 => none
 | fuel + 1 =>
 (bif (decide (x1.depth ≠ x2)) then
 some false
 else
 (bif (decide (x2 < 0)) then
 some false
 else
 (bif (decide (3 < x2)) then
 some false
 else
 (m_spec_l3Is fuel x1.name).bind fun v4 =>
 (bif (!v4) then
 some false
 else
 (bif (decide (x1.name.name = (⟨#[46, 46, 46]⟩ : ByteArray))) then
 some false
 else
 (bif (decide (x1.name.name = (⟨#[95]⟩ : ByteArray))) then
 some false
 else
 (bif (decide (x2 = 0)) then
 (m_spec_FormValid fuel x1.one).bind fun v9 =>
 (bif v9 then
 some (decide ((x1.many.length : Int) = 0))
 else
 some false)
 else
 m_spec_l4Hit_l1 fuel x1 x2 0)))))))
def m_spec_l4Hit_l1 (fuel : Nat) (x1 : Hit) (x2 : Int) (g11 : Int) : Option Bool :=
 match fuel with
 | 0 => none
 | fuel + 1 =>
 (bif (decide (g11 < (x1.many.length : Int))) then
 (idx x1.many g11).bind fun v15 =>
 (m_spec_FormSame fuel v15.name x1.name).bind fun v16 =>
 (bif (!v16) then
 some false
 else
 (idx x1.many g11).bind fun v18 =>
 (m_spec_l4Hit fuel v18 (w64 (x2 - 1))).bind fun v19 =>
 (bif (!v19) then
 some false
 else
 m_spec_l4Hit_l1 fuel x1 x2 (g11 + 1)))
 else
 (m_spec_FormSame fuel x1.one (Form.mk 0 (⟨#[]⟩ : ByteArray) 0 ([] : List Int) ([] : List Form))).bind fun v21 =>
 (bif v21 then
 some (decide ((x1.many.length : Int) ≤ 400))
 else
 some false))
end
mutual
def m_spec_HitsValid_l2 (fuel : Nat) (x1 : (List Hit)) (g1 : Int) (g9 : Int) : Option Bool :=
 match fuel with
 | 0 => none
 | fuel + 1 =>
 (bif (decide (g9 < g1)) then
 (idx x1 g9).bind fun v12 =>
 (idx x1 g1).bind fun v13 =>
 (m_spec_FormSame fuel v12.name v13.name).bind fun v14 =>
 (bif v14 then
 some false
 else
 m_spec_HitsValid_l2 fuel x1 g1 (w64 (g9 + 1)))
 else
 m_spec_HitsValid_l1 fuel x1 (w64 (g1 + 1)))
def m_spec_HitsValid_l1 (fuel : Nat) (x1 : (List Hit)) (g1 : Int) : Option Bool :=
 match fuel with
 | 0 => none
 | fuel + 1 =>
 (bif (decide (g1 < (x1.length : Int))) then
 (bif (decide (g1 ≤ 20)) then
 (idx x1 g1).bind fun v5 =>
 (idx x1 g1).bind fun v6 =>
 (m_spec_l4Hit fuel v5 v6.depth).bind fun v7 =>
 (bif (!v7) then
 some false
 else
 m_spec_HitsValid_l2 fuel x1 g1 0)
 else
 some (decide ((x1.length : Int) ≤ 20)))
 else
 some (decide ((x1.length : Int) ≤ 20)))
end
def m_spec_HitsValid (fuel : Nat) (x1 : (List Hit)) : Option Bool :=
 m_spec_HitsValid_l1 fuel x1 0
mutual
def m_impl_copyHit (fuel : Nat) (x1 : Hit) : Option Hit :=
 match fuel with
 | 0 => none
 | fuel + 1 =>
 (m_impl_copyForm fuel x1.name).bind fun v1 =>
 (m_impl_copyForm fuel x1.one).bind fun v2 =>
 m_impl_copyHit_l1 fuel x1 v1 v2 0 ([] : List Hit)
def m_impl_copyHit_l1 (fuel : Nat) (x1 : Hit) (v1 : Form) (v2 : Form) (g3 : Int) (g4 : (List Hit)) : Option Hit :=
 match fuel with
 | 0 => none
 | fuel + 1 =>
 (bif (decide (g3 < (x1.many.length : Int))) then
 (idx x1.many g3).bind fun v8 =>
 (m_impl_copyHit fuel v8).bind fun v9 =>
 chk (decide ((g4.length + [v9].length) * 192 ≤ 140737488355328)) <|
 m_impl_copyHit_l1 fuel x1 v1 v2 (g3 + 1) (g4 ++ [v9])
 else
 some (Hit.mk v1 x1.depth v2 g4))
end
def m_impl_FindHit (fuel : Nat) (x1 : (List Hit)) (x2 : Form) : Option (Hit × Bool) :=
 (m_impl_hitAt fuel x1 x2).bind fun v1 =>
 (m_impl_HitsValid fuel x1).bind fun v2 =>
 (bif (!v2) then
 some ((Hit.mk (Form.mk 0 (⟨#[]⟩ : ByteArray) 0 ([] : List Int) ([] : List Form)) 0 (Form.mk 0 (⟨#[]⟩ : ByteArray) 0 ([] : List Int) ([] : List Form)) ([] : List Hit)), false)
 else
 (bif (decide (v1 < 0)) then
 some ((Hit.mk (Form.mk 0 (⟨#[]⟩ : ByteArray) 0 ([] : List Int) ([] : List Form)) 0 (Form.mk 0 (⟨#[]⟩ : ByteArray) 0 ([] : List Int) ([] : List Form)) ([] : List Hit)), false)
 else
 (idx x1 v1).bind fun v5 =>
 (m_impl_copyHit fuel v5).bind fun v6 =>
 some (v6, true)))
def m_laws_FnHitsParts_l1 (fuel : Nat) (v3 : (List Hit)) (g12 : Int) : Option Bool :=
 match fuel with
 | 0 => none
 | fuel + 1 =>
 (bif (decide (g12 < (v3.length : Int))) then
 (idx v3 g12).bind fun v16 =>
 (m_impl_FindHit fuel v3 v16.name).bind fun v17 =>
 (bif (!v17.2) then
 some false
 else
 (sub v3 g12 (g12 + 1)).bind fun v19 =>
 (m_impl_HitsSame fuel [v17.1] v19).bind fun v20 =>
 (bif (!v20) then
 some false
 else
 m_laws_FnHitsParts_l1 fuel v3 (g12 + 1)))
 else
 (sub v3 1 (v3.length : Int)).bind fun v22 =>
 (m_impl_HitsValid fuel v22).bind fun v23 =>
 some v23)
def m_laws_FnHitsParts (fuel : Nat) (x1 : (List Int)) : Option Bool :=
 (bif (decide (1048576 < (x1.length : Int))) then
 some true
 else
 (m_spec_DrawHitsValid fuel x1).bind fun v3 =>
 (m_impl_HitsValid fuel v3).bind fun v4 =>
 (m_spec_HitsValid fuel v3).bind fun v5 =>
 (bif (decide (v4 ≠ v5)) then
 (m_spec_HitsValid fuel v3).bind fun v7 =>
 some (decide (v4 = v7))
 else
 (bif (!v4) then
 (m_spec_HitsValid fuel v3).bind fun v9 =>
 some (decide (v4 = v9))
 else
 (bif (decide ((v3.length : Int) = 0)) then
 (m_spec_HitsValid fuel v3).bind fun v11 =>
 some (decide (v4 = v11))
 else
 m_laws_FnHitsParts_l1 fuel v3 0))))
def m_spec_DrawFindHit (fuel : Nat) (x1 : (List Int)) : Option ((List Hit) × Form) :=
 (m_spec_l4Hits fuel x1).bind fun v1 =>
 (m_spec_l15Open fuel x1).bind fun v2 =>
 (m_spec_l15Rd_of fuel v2 [(⟨#[97]⟩ : ByteArray), (⟨#[98]⟩ : ByteArray), (⟨#[120]⟩ : ByteArray), (⟨#[118]⟩ : ByteArray), (⟨#[98, 111, 100, 121]⟩ : ByteArray), (⟨#[113]⟩ : ByteArray)]).bind fun v3 =>
 (m_spec_l1Name fuel v3.1).bind fun v4 =>
 some (v1, v4)
def m_spec_FindHit (fuel : Nat) (x1 : (List Hit)) (x2 : Form) : Option (Hit × Bool) :=
 (m_spec_l4Find fuel x1 x2).bind fun v1 =>
 (m_spec_HitsValid fuel x1).bind fun v2 =>
 (bif (!v2) then
 some ((Hit.mk (Form.mk 0 (⟨#[]⟩ : ByteArray) 0 ([] : List Int) ([] : List Form)) 0 (Form.mk 0 (⟨#[]⟩ : ByteArray) 0 ([] : List Int) ([] : List Form)) ([] : List Hit)), false)
 else
 (bif (decide (v1 < 0)) then
 some ((Hit.mk (Form.mk 0 (⟨#[]⟩ : ByteArray) 0 ([] : List Int) ([] : List Form)) 0 (Form.mk 0 (⟨#[]⟩ : ByteArray) 0 ([] : List Int) ([] : List Form)) ([] : List Hit)), false)
 else
 (idx x1 v1).bind fun v5 =>
 (m_spec_l4CopyHit fuel v5).bind fun v6 =>
 some (v6, true)))
def m_laws_FnFindHit (fuel : Nat) (x1 : (List Int)) : Option Bool :=
 (bif (decide (1048576 < (x1.length : Int))) then
 some true
 else
 (m_spec_DrawFindHit fuel x1).bind fun v3 =>
 (m_impl_FindHit fuel v3.1 v3.2).bind fun v4 =>
 (m_spec_FindHit fuel v3.1 v3.2).bind fun v5 =>
 (m_impl_HitsSame fuel [v4.1] [v5.1]).bind fun v6 =>
 (bif (!v6) then
 (m_impl_HitsSame fuel [v4.1] [v5.1]).bind fun v8 =>
 (bif v8 then
 some (decide (v4.2 = v5.2))
 else
 some false)
 else
 (bif (decide (v4.2 ≠ v5.2)) then
 (m_impl_HitsSame fuel [v4.1] [v5.1]).bind fun v11 =>
 (bif v11 then
 some (decide (v4.2 = v5.2))
 else
 some false)
 else
 (bif (!v4.2) then
 (m_impl_HitsSame fuel [v4.1] [v5.1]).bind fun v14 =>
 (bif v14 then
 some (decide (v4.2 = v5.2))
 else
 some false)
 else
 (m_impl_FormSame fuel v4.1.name v3.2).bind fun v16 =>
 (bif v16 then
 (m_impl_HitsValid fuel [v4.1]).bind fun v18 =>
 (bif v18 then
 (m_impl_HitsValid fuel v3.1).bind fun v20 =>
 some v20
 else
 some false)
 else
 some false)))))
def m_laws_szIntS (fuel : Nat) (x1 : (List Int)) (x2 : Int) : Option Int :=
 (bif (decide ((w64 (x2 - (x1.length : Int))) < 0)) then
 some (-1)
 else
 some (w64 (x2 - (x1.length : Int))))
mutual
def m_laws_szForm (fuel : Nat) (x1 : Form) (x2 : Int) : Option Int :=
 match fuel with
 | 0 => none
 | fuel + 1 =>
 (bif (decide ((w64 (x2 - (x1.name.size : Int))) < 0)) then
 some (-1)
 else
 (m_laws_szIntS fuel x1.scopes (w64 (x2 - (x1.name.size : Int)))).bind fun v2 =>
 (bif (decide (v2 < 0)) then
 some (-1)
 else
 (m_laws_szFormS fuel x1.kids v2).bind fun v4 =>
 (bif (decide (v4 < 0)) then
 some (-1)
 else
 some v4)))
def m_laws_szFormS (fuel : Nat) (x1 : (List Form)) (x2 : Int) : Option Int :=
 match fuel with
 | 0 => none
 | fuel + 1 =>
 (bif (decide ((w64 (x2 - (x1.length : Int))) < 0)) then
 some (-1)
 else
 m_laws_szFormS_l1 fuel x1 (w64 (x2 - (x1.length : Int))) 0)
def m_laws_szFormS_l1 (fuel : Nat) (x1 : (List Form)) (g2 : Int) (g3 : Int) : Option Int :=
 match fuel with
 | 0 => none
 | fuel + 1 =>
 (bif (decide (g3 < (x1.length : Int))) then
 (idx x1 g3).bind fun v7 =>
 (m_laws_szForm fuel v7 g2).bind fun v8 =>
 (bif (decide (v8 < 0)) then
 some (-1)
 else
 m_laws_szFormS_l1 fuel x1 v8 (g3 + 1))
 else
 some g2)
end
mutual
def m_laws_szHit (fuel : Nat) (x1 : Hit) (x2 : Int) : Option Int :=
 match fuel with
 | 0 => none
 | fuel + 1 =>
 (m_laws_szForm fuel x1.name x2).bind fun v1 =>
 (bif (decide (v1 < 0)) then
 some (-1)
 else
 (m_laws_szForm fuel x1.one v1).bind fun v3 =>
 (bif (decide (v3 < 0)) then
 some (-1)
 else
 (m_laws_szHitS fuel x1.many v3).bind fun v5 =>
 (bif (decide (v5 < 0)) then
 some (-1)
 else
 some v5)))
def m_laws_szHitS (fuel : Nat) (x1 : (List Hit)) (x2 : Int) : Option Int :=
 match fuel with
 | 0 => none
 | fuel + 1 =>
 (bif (decide ((w64 (x2 - (x1.length : Int))) < 0)) then
 some (-1)
 else
 m_laws_szHitS_l1 fuel x1 (w64 (x2 - (x1.length : Int))) 0)
def m_laws_szHitS_l1 (fuel : Nat) (x1 : (List Hit)) (g2 : Int) (g3 : Int) : Option Int :=
 match fuel with
 | 0 => none
 | fuel + 1 =>
 (bif (decide (g3 < (x1.length : Int))) then
 (idx x1 g3).bind fun v7 =>
 (m_laws_szHit fuel v7 g2).bind fun v8 =>
 (bif (decide (v8 < 0)) then
 some (-1)
 else
 m_laws_szHitS_l1 fuel x1 v8 (g3 + 1))
 else
 some g2)
end
def m_laws_toIntS_l1 (fuel : Nat) (x1 : (List Int)) (g2 : Int) (g3 : (List Int)) : Option (List Int) :=
 match fuel with
 | 0 => none
 | fuel + 1 =>
 (bif (decide (g2 < (x1.length : Int))) then
 (idx x1 g2).bind fun v7 =>
 (idx g3 g2).bind fun v8 =>
 m_laws_toIntS_l1 fuel x1 (g2 + 1) (g3.set g2.toNat v7)
 else
 some g3)
def m_laws_toIntS (fuel : Nat) (x1 : (List Int)) : Option (List Int) :=
 chk (decide (0 ≤ (x1.length : Int)) && decide ((x1.length : Int).toNat * 8 ≤ 140737488355328)) <|
 m_laws_toIntS_l1 fuel x1 0 (List.replicate (x1.length : Int).toNat 0)
mutual
def m_laws_toForm (fuel : Nat) (x1 : Form) : Option Form :=
 match fuel with
 | 0 => none
 | fuel + 1 =>
 (m_laws_toIntS fuel x1.scopes).bind fun v1 =>
 (m_laws_toFormS fuel x1.kids).bind fun v2 =>
 some (Form.mk x1.kind x1.name x1.n v1 v2)
def m_laws_toFormS (fuel : Nat) (x1 : (List Form)) : Option (List Form) :=
 match fuel with
 | 0 => none
 | fuel + 1 =>
 chk (decide (0 ≤ (x1.length : Int)) && decide ((x1.length : Int).toNat * 80 ≤ 140737488355328)) <|
 m_laws_toFormS_l1 fuel x1 0 (List.replicate (x1.length : Int).toNat (Form.mk 0 (⟨#[]⟩ : ByteArray) 0 ([] : List Int) ([] : List Form)))
def m_laws_toFormS_l1 (fuel : Nat) (x1 : (List Form)) (g2 : Int) (g3 : (List Form)) : Option (List Form) :=
 match fuel with
 | 0 => none
 | fuel + 1 =>
 (bif (decide (g2 < (x1.length : Int))) then
 (idx x1 g2).bind fun v7 =>
 (m_laws_toForm fuel v7).bind fun v8 =>
 (idx g3 g2).bind fun v9 =>
 m_laws_toFormS_l1 fuel x1 (g2 + 1) (g3.set g2.toNat v8)
 else
 some g3)
end
mutual
def m_laws_toHit (fuel : Nat) (x1 : Hit) : Option Hit :=
 match fuel with
 | 0 => none
 | fuel + 1 =>
 (m_laws_toForm fuel x1.name).bind fun v1 =>
 (m_laws_toForm fuel x1.one).bind fun v2 =>
 (m_laws_toHitS fuel x1.many).bind fun v3 =>
 some (Hit.mk v1 x1.depth v2 v3)
def m_laws_toHitS (fuel : Nat) (x1 : (List Hit)) : Option (List Hit) :=
 match fuel with
 | 0 => none
 | fuel + 1 =>
 chk (decide (0 ≤ (x1.length : Int)) && decide ((x1.length : Int).toNat * 192 ≤ 140737488355328)) <|
 m_laws_toHitS_l1 fuel x1 0 (List.replicate (x1.length : Int).toNat (Hit.mk (Form.mk 0 (⟨#[]⟩ : ByteArray) 0 ([] : List Int) ([] : List Form)) 0 (Form.mk 0 (⟨#[]⟩ : ByteArray) 0 ([] : List Int) ([] : List Form)) ([] : List Hit)))
def m_laws_toHitS_l1 (fuel : Nat) (x1 : (List Hit)) (g2 : Int) (g3 : (List Hit)) : Option (List Hit) :=
 match fuel with
 | 0 => none
 | fuel + 1 =>
 (bif (decide (g2 < (x1.length : Int))) then
 (idx x1 g2).bind fun v7 =>
 (m_laws_toHit fuel v7).bind fun v8 =>
 (idx g3 g2).bind fun v9 =>
 m_laws_toHitS_l1 fuel x1 (g2 + 1) (g3.set g2.toNat v8)
 else
 some g3)
end
def m_spec_TemplateValid (fuel : Nat) (x1 : Form) (x2 : (List Hit)) : Option Bool :=
 (m_spec_FormValid fuel x1).bind fun v1 =>
 (bif v1 then
 (m_spec_HitsValid fuel x2).bind fun v3 =>
 (bif v3 then
 (m_spec_l5Is fuel x1 x2).bind fun v5 =>
 some v5
 else
 some false)
 else
 some false)
def m_impl_hitVars_l1 (fuel : Nat) (x1 : (List Hit)) (g1 : (List Form)) (g2 : (List Int)) (g3 : Int) : Option ((List Form) × (List Int)) :=
 match fuel with
 | 0 => none
 | fuel + 1 =>
 (bif (decide (g3 < (x1.length : Int))) then
 (idx x1 g3).bind fun v7 =>
 chk (decide ((g1.length + [v7.name].length) * 80 ≤ 140737488355328)) <|
 chk (decide ((g2.length + [v7.depth].length) * 8 ≤ 140737488355328)) <|
 m_impl_hitVars_l1 fuel x1 (g1 ++ [v7.name]) (g2 ++ [v7.depth]) (g3 + 1)
 else
 some (g1, g2))
def m_impl_hitVars (fuel : Nat) (x1 : (List Hit)) : Option ((List Form) × (List Int)) :=
 m_impl_hitVars_l1 fuel x1 ([] : List Form) ([] : List Int) 0
def m_impl_TemplateValid (fuel : Nat) (x1 : Form) (x2 : (List Hit)) : Option Bool :=
 (m_impl_hitVars fuel x2).bind fun v1 =>
 (m_impl_HitsValid fuel x2).bind fun v2 =>
 (bif v2 then
 (m_impl_templateOk fuel x1 v1.1 v1.2).bind fun v4 =>
 some v4
 else
 some false)
def m_laws_eqIntS_l1 (fuel : Nat) (x1 : (List Int)) (x2 : (List Int)) (g2 : Int) : Option Bool :=
 match fuel with
 | 0 => none
 | fuel + 1 =>
 (bif (decide (g2 < (x1.length : Int))) then
 (idx x1 g2).bind fun v6 =>
 (idx x2 g2).bind fun v7 =>
 (bif (decide (v6 ≠ v7)) then
 some false
 else
 m_laws_eqIntS_l1 fuel x1 x2 (g2 + 1))
 else
 some true)
def m_laws_eqIntS (fuel : Nat) (x1 : (List Int)) (x2 : (List Int)) : Option Bool :=
 (bif (decide ((x1.length : Int) ≠ (x2.length : Int))) then
 some false
 else
 m_laws_eqIntS_l1 fuel x1 x2 0)
mutual
def m_laws_eqForm (fuel : Nat) (x1 : Form) (x2 : Form) : Option Bool :=
 match fuel with
 | 0 => none
 | fuel + 1 =>
 (bif (decide (x1.kind ≠ x2.kind)) then
 some false
 else
 (bif (decide (x1.name ≠ x2.name)) then
 some false
 else
 (bif (decide (x1.n ≠ x2.n)) then
 some false
 else
 (m_laws_eqIntS fuel x1.scopes x2.scopes).bind fun v4 =>
 (bif (!v4) then
 some false
 else
 (m_laws_eqFormS fuel x1.kids x2.kids).bind fun v6 =>
 (bif (!v6) then
 some false
 else
 some true)))))
def m_laws_eqFormS (fuel : Nat) (x1 : (List Form)) (x2 : (List Form)) : Option Bool :=
 match fuel with
 | 0 => none
 | fuel + 1 =>
 (bif (decide ((x1.length : Int) ≠ (x2.length : Int))) then
 some false
 else
 m_laws_eqFormS_l1 fuel x1 x2 0)
def m_laws_eqFormS_l1 (fuel : Nat) (x1 : (List Form)) (x2 : (List Form)) (g2 : Int) : Option Bool :=
 match fuel with
 | 0 => none
 | fuel + 1 =>
 (bif (decide (g2 < (x1.length : Int))) then
 (idx x1 g2).bind fun v6 =>
 (idx x2 g2).bind fun v7 =>
 (m_laws_eqForm fuel v6 v7).bind fun v8 =>
 (bif (!v8) then
 some false
 else
 m_laws_eqFormS_l1 fuel x1 x2 (g2 + 1))
 else
 some true)
end
mutual
def m_laws_eqHit (fuel : Nat) (x1 : Hit) (x2 : Hit) : Option Bool :=
 match fuel with
 | 0 => none
 | fuel + 1 =>
 (m_laws_eqForm fuel x1.name x2.name).bind fun v1 =>
 (bif (!v1) then
 some false
 else
 (bif (decide (x1.depth ≠ x2.depth)) then
 some false
 else
 (m_laws_eqForm fuel x1.one x2.one).bind fun v4 =>
 (bif (!v4) then
 some false
 else
 (m_laws_eqHitS fuel x1.many x2.many).bind fun v6 =>
 (bif (!v6) then
 some false
 else
 some true))))
def m_laws_eqHitS (fuel : Nat) (x1 : (List Hit)) (x2 : (List Hit)) : Option Bool :=
 match fuel with
 | 0 => none
 | fuel + 1 =>
 (bif (decide ((x1.length : Int) ≠ (x2.length : Int))) then
 some false
 else
 m_laws_eqHitS_l1 fuel x1 x2 0)
def m_laws_eqHitS_l1 (fuel : Nat) (x1 : (List Hit)) (x2 : (List Hit)) (g2 : Int) : Option Bool :=
 match fuel with
 | 0 => none
 | fuel + 1 =>
 (bif (decide (g2 < (x1.length : Int))) then
 (idx x1 g2).bind fun v6 =>
 (idx x2 g2).bind fun v7 =>
 (m_laws_eqHit fuel v6 v7).bind fun v8 =>
 (bif (!v8) then
 some false
 else
 m_laws_eqHitS_l1 fuel x1 x2 (g2 + 1))
 else
 some true)
end
def m_laws_FnExactTemplateValid (fuel : Nat) (x1 : Form) (x2 : (List Hit)) : Option Bool :=
 (m_laws_szForm fuel x1 1048576).bind fun v1 =>
 (bif (decide (v1 < 0)) then
 some true
 else
 (m_laws_szHitS fuel x2 v1).bind fun v3 =>
 (bif (decide (v3 < 0)) then
 some true
 else
 (m_laws_toForm fuel x1).bind fun v5 =>
 (m_laws_toHitS fuel x2).bind fun v6 =>
 (m_spec_TemplateValid fuel v5 v6).bind fun v7 =>
 (m_laws_toForm fuel x1).bind fun v8 =>
 (m_laws_toHitS fuel x2).bind fun v9 =>
 (m_impl_TemplateValid fuel v8 v9).bind fun v10 =>
 (bif (decide (v10 ≠ v7)) then
 some false
 else
 (m_laws_toForm fuel x1).bind fun v12 =>
 (m_laws_eqForm fuel v8 v12).bind fun v13 =>
 (bif (!v13) then
 some false
 else
 (m_laws_toHitS fuel x2).bind fun v15 =>
 (m_laws_eqHitS fuel v9 v15).bind fun v16 =>
 (bif (!v16) then
 some false
 else
 some true)))))
def m_laws_szRule (fuel : Nat) (x1 : Rule) (x2 : Int) : Option Int :=
 (m_laws_szForm fuel x1.pattern x2).bind fun v1 =>
 (bif (decide (v1 < 0)) then
 some (-1)
 else
 (m_laws_szForm fuel x1.template v1).bind fun v3 =>
 (bif (decide (v3 < 0)) then
 some (-1)
 else
 some v3))
def m_laws_toRule (fuel : Nat) (x1 : Rule) : Option Rule :=
 (m_laws_toForm fuel x1.pattern).bind fun v1 =>
 (m_laws_toForm fuel x1.template).bind fun v2 =>
 some (Rule.mk v1 v2)
def m_laws_eqRule (fuel : Nat) (x1 : Rule) (x2 : Rule) : Option Bool :=
 (m_laws_eqForm fuel x1.pattern x2.pattern).bind fun v1 =>
 (bif (!v1) then
 some false
 else
 (m_laws_eqForm fuel x1.template x2.template).bind fun v3 =>
 (bif (!v3) then
 some false
 else
 some true))
def m_laws_FnExactRuleValid (fuel : Nat) (x1 : Rule) (x2 : (List Form)) : Option Bool :=
 (m_laws_szRule fuel x1 1048576).bind fun v1 =>
 (bif (decide (v1 < 0)) then
 some true
 else
 (m_laws_szFormS fuel x2 v1).bind fun v3 =>
 (bif (decide (v3 < 0)) then
 some true
 else
 (m_laws_toRule fuel x1).bind fun v5 =>
 (m_laws_toFormS fuel x2).bind fun v6 =>
 (m_spec_RuleValid fuel v5 v6).bind fun v7 =>
 (m_laws_toRule fuel x1).bind fun v8 =>
 (m_laws_toFormS fuel x2).bind fun v9 =>
 (m_impl_RuleValid fuel v8 v9).bind fun v10 =>
 (bif (decide (v10 ≠ v7)) then
 some false
 else
 (m_laws_toRule fuel x1).bind fun v12 =>
 (m_laws_eqRule fuel v8 v12).bind fun v13 =>
 (bif (!v13) then
 some false
 else
 (m_laws_toFormS fuel x2).bind fun v15 =>
 (m_laws_eqFormS fuel v9 v15).bind fun v16 =>
 (bif (!v16) then
 some false
 else
 some true)))))
end Go.Abs
