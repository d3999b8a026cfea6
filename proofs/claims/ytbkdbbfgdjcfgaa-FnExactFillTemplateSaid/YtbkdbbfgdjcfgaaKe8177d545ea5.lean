/- A part of the proof: what the functions that the law calls answer, as pure values. -/
import Derived.Test.YtbkdbbfgdjcfgaaK69e8a0ebd724
set_option linter.unusedSimpArgs false
set_option linter.unusedVariables false
set_option maxHeartbeats 4000000
namespace Go.Abs
def m_laws_szIntS (fuel : Nat) (x1 : (List Int)) (x2 : Int) : Option Int :=
 (bif (decide ((w64 (x2 - (x1.length : Int))) < 0)) then
 some (-1)
 else
 some (w64 (x2 - (x1.length : Int))))
mutual
def m_laws_szForm (fuel : Nat) (x1 : Form) (x2 : Int) : Option Int :=
 match fuel with
 | 0 => none
 | fuel + 1 =>
 (bif (decide ((w64 (x2 - (x1.name.size : Int))) < 0)) then
 some (-1)
 else
 (m_laws_szIntS fuel x1.scopes (w64 (x2 - (x1.name.size : Int)))).bind fun v2 =>
 (bif (decide (v2 < 0)) then
 some (-1)
 else
 (m_laws_szFormS fuel x1.kids v2).bind fun v4 =>
 (bif (decide (v4 < 0)) then
 some (-1)
 else
 some v4)))
def m_laws_szFormS (fuel : Nat) (x1 : (List Form)) (x2 : Int) : Option Int :=
 match fuel with
 | 0 => none
 | fuel + 1 =>
 (bif (decide ((w64 (x2 - (x1.length : Int))) < 0)) then
 some (-1)
 else
 m_laws_szFormS_l1 fuel x1 (w64 (x2 - (x1.length : Int))) 0)
def m_laws_szFormS_l1 (fuel : Nat) (x1 : (List Form)) (g2 : Int) (g3 : Int) : Option Int :=
 match fuel with
 | 0 => none
 | fuel + 1 =>
 (bif (decide (g3 < (x1.length : Int))) then
 (idx x1 g3).bind fun v7 =>
 (m_laws_szForm fuel v7 g2).bind fun v8 =>
 (bif (decide (v8 < 0)) then
 some (-1)
 else
 m_laws_szFormS_l1 fuel x1 v8 (g3 + 1))
 else
 some g2)
end
mutual
def m_laws_szHit (fuel : Nat) (x1 : Hit) (x2 : Int) : Option Int :=
 match fuel with
 | 0 => none
 | fuel + 1 =>
 (m_laws_szForm fuel x1.name x2).bind fun v1 =>
 (bif (decide (v1 < 0)) then
 some (-1)
 else
 (m_laws_szForm fuel x1.one v1).bind fun v3 =>
 (bif (decide (v3 < 0)) then
 some (-1)
 else
 (m_laws_szHitS fuel x1.many v3).bind fun v5 =>
 (bif (decide (v5 < 0)) then
 some (-1)
 else
 some v5)))
def m_laws_szHitS (fuel : Nat) (x1 : (List Hit)) (x2 : Int) : Option Int :=
 match fuel with
 | 0 => none
 | fuel + 1 =>
 (bif (decide ((w64 (x2 - (x1.length : Int))) < 0)) then
 some (-1)
 else
 m_laws_szHitS_l1 fuel x1 (w64 (x2 - (x1.length : Int))) 0)
def m_laws_szHitS_l1 (fuel : Nat) (x1 : (List Hit)) (g2 : Int) (g3 : Int) : Option Int :=
 match fuel with
 | 0 => none
 | fuel + 1 =>
 (bif (decide (g3 < (x1.length : Int))) then
 (idx x1 g3).bind fun v7 =>
 (m_laws_szHit fuel v7 g2).bind fun v8 =>
 (bif (decide (v8 < 0)) then
 some (-1)
 else
 m_laws_szHitS_l1 fuel x1 v8 (g3 + 1))
 else
 some g2)
end
def m_laws_toIntS_l1 (fuel : Nat) (x1 : (List Int)) (g2 : Int) (g3 : (List Int)) : Option (List Int) :=
 match fuel with
 | 0 => none
 | fuel + 1 =>
 (bif (decide (g2 < (x1.length : Int))) then
 (idx x1 g2).bind fun v7 =>
 (idx g3 g2).bind fun v8 =>
 m_laws_toIntS_l1 fuel x1 (g2 + 1) (g3.set g2.toNat v7)
 else
 some g3)
def m_laws_toIntS (fuel : Nat) (x1 : (List Int)) : Option (List Int) :=
 chk (decide (0 ≤ (x1.length : Int)) && decide ((x1.length : Int).toNat * 8 ≤ 140737488355328)) <|
 m_laws_toIntS_l1 fuel x1 0 (List.replicate (x1.length : Int).toNat 0)
mutual
def m_laws_toForm (fuel : Nat) (x1 : Form) : Option Form :=
 match fuel with
 | 0 => none
 | fuel + 1 =>
 (m_laws_toIntS fuel x1.scopes).bind fun v1 =>
 (m_laws_toFormS fuel x1.kids).bind fun v2 =>
 some (Form.mk x1.kind x1.name x1.n v1 v2)
def m_laws_toFormS (fuel : Nat) (x1 : (List Form)) : Option (List Form) :=
 match fuel with
 | 0 => none
 | fuel + 1 =>
 chk (decide (0 ≤ (x1.length : Int)) && decide ((x1.length : Int).toNat * 80 ≤ 140737488355328)) <|
 m_laws_toFormS_l1 fuel x1 0 (List.replicate (x1.length : Int).toNat (Form.mk 0 (⟨#[]⟩ : ByteArray) 0 ([] : List Int) ([] : List Form)))
def m_laws_toFormS_l1 (fuel : Nat) (x1 : (List Form)) (g2 : Int) (g3 : (List Form)) : Option (List Form) :=
 match fuel with
 | 0 => none
 | fuel + 1 =>
 (bif (decide (g2 < (x1.length : Int))) then
 (idx x1 g2).bind fun v7 =>
 (m_laws_toForm fuel v7).bind fun v8 =>
 (idx g3 g2).bind fun v9 =>
 m_laws_toFormS_l1 fuel x1 (g2 + 1) (g3.set g2.toNat v8)
 else
 some g3)
end
mutual
def m_laws_toHit (fuel : Nat) (x1 : Hit) : Option Hit :=
 match fuel with
 | 0 => none
 | fuel + 1 =>
 (m_laws_toForm fuel x1.name).bind fun v1 =>
 (m_laws_toForm fuel x1.one).bind fun v2 =>
 (m_laws_toHitS fuel x1.many).bind fun v3 =>
 some (Hit.mk v1 x1.depth v2 v3)
def m_laws_toHitS (fuel : Nat) (x1 : (List Hit)) : Option (List Hit) :=
 match fuel with
 | 0 => none
 | fuel + 1 =>
 chk (decide (0 ≤ (x1.length : Int)) && decide ((x1.length : Int).toNat * 192 ≤ 140737488355328)) <|
 m_laws_toHitS_l1 fuel x1 0 (List.replicate (x1.length : Int).toNat (Hit.mk (Form.mk 0 (⟨#[]⟩ : ByteArray) 0 ([] : List Int) ([] : List Form)) 0 (Form.mk 0 (⟨#[]⟩ : ByteArray) 0 ([] : List Int) ([] : List Form)) ([] : List Hit)))
def m_laws_toHitS_l1 (fuel : Nat) (x1 : (List Hit)) (g2 : Int) (g3 : (List Hit)) : Option (List Hit) :=
 match fuel with
 | 0 => none
 | fuel + 1 =>
 (bif (decide (g2 < (x1.length : Int))) then
 (idx x1 g2).bind fun v7 =>
 (m_laws_toHit fuel v7).bind fun v8 =>
 (idx g3 g2).bind fun v9 =>
 m_laws_toHitS_l1 fuel x1 (g2 + 1) (g3.set g2.toNat v8)
 else
 some g3)
end
def m_spec_l1Letter (fuel : Nat) (x1 : Int) (x2 : Bool) : Option Bool :=
 (bif (decide (97 ≤ x1)) then
 (bif (decide (x1 ≤ 122)) then
 some true
 else
 (bif (decide (x1 = 42)) then
 some true
 else
 (bif (decide (x1 = 63)) then
 some true
 else
 (bif (decide (x1 = 61)) then
 some true
 else
 (bif (decide (x1 = 43)) then
 some true
 else
 (bif (decide (x1 = 60)) then
 some true
 else
 (bif (!x2) then
 (bif (decide (48 ≤ x1)) then
 (bif (decide (x1 ≤ 57)) then
 some true
 else
 some (decide (x1 = 45)))
 else
 some (decide (x1 = 45)))
 else
 some false)))))))
 else
 (bif (decide (x1 = 42)) then
 some true
 else
 (bif (decide (x1 = 63)) then
 some true
 else
 (bif (decide (x1 = 61)) then
 some true
 else
 (bif (decide (x1 = 43)) then
 some true
 else
 (bif (decide (x1 = 60)) then
 some true
 else
 (bif (!x2) then
 (bif (decide (48 ≤ x1)) then
 (bif (decide (x1 ≤ 57)) then
 some true
 else
 some (decide (x1 = 45)))
 else
 some (decide (x1 = 45)))
 else
 some false)))))))
def m_spec_NameValid_l1 (fuel : Nat) (x1 : ByteArray) (g3 : Int) : Option Bool :=
 match fuel with
 | 0 => none
 | fuel + 1 =>
 (bif (decide (g3 < (x1.size : Int))) then
 (bif (decide (g3 ≤ 12)) then
 (bidx x1 g3).bind fun v7 =>
 (m_spec_l1Letter fuel v7 (decide (g3 = 0))).bind fun v8 =>
 (bif (!v8) then
 some false
 else
 m_spec_NameValid_l1 fuel x1 (w64 (g3 + 1)))
 else
 (bif (decide (1 ≤ (x1.size : Int))) then
 some (decide ((x1.size : Int) ≤ 12))
 else
 some false))
 else
 (bif (decide (1 ≤ (x1.size : Int))) then
 some (decide ((x1.size : Int) ≤ 12))
 else
 some false))
def m_spec_NameValid (fuel : Nat) (x1 : ByteArray) : Option Bool :=
 (bif (decide (x1 = (⟨#[46, 46, 46]⟩ : ByteArray))) then
 some true
 else
 (bif (decide (x1 = (⟨#[95]⟩ : ByteArray))) then
 some true
 else
 m_spec_NameValid_l1 fuel x1 0))
def m_spec_l1Scopes_l1 (fuel : Nat) (x1 : (List Int)) (g1 : Int) : Option Bool :=
 match fuel with
 | 0 => none
 | fuel + 1 =>
 (bif (decide (g1 < (x1.length : Int))) then
 (bif (decide (g1 ≤ 24)) then
 (idx x1 g1).bind fun v5 =>
 (bif (decide (v5 < 1)) then
 some false
 else
 (idx x1 g1).bind fun v7 =>
 (bif (decide (99 < v7)) then
 some false
 else
 (bif (decide (0 < g1)) then
 (idx x1 g1).bind fun v10 =>
 (idx x1 (w64 (g1 - 1))).bind fun v11 =>
 (bif (decide (v10 ≤ v11)) then
 some false
 else
 m_spec_l1Scopes_l1 fuel x1 (w64 (g1 + 1)))
 else
 m_spec_l1Scopes_l1 fuel x1 (w64 (g1 + 1)))))
 else
 some (decide ((x1.length : Int) ≤ 24)))
 else
 some (decide ((x1.length : Int) ≤ 24)))
def m_spec_l1Scopes (fuel : Nat) (x1 : (List Int)) : Option Bool :=
 m_spec_l1Scopes_l1 fuel x1 0
mutual
def m_spec_l1Is (fuel : Nat) (x1 : Form) (x2 : Int) : Option Bool :=
 match fuel with
 | 0 => none
 | fuel + 1 =>
 (bif (decide (x2 = 0)) then
 some false
 else
 (bif (decide (x1.kind = 1)) then
 (m_spec_NameValid fuel x1.name).bind fun v3 =>
 (bif v3 then
 (bif (decide (x1.n = 0)) then
 (m_spec_l1Scopes fuel x1.scopes).bind fun v6 =>
 (bif v6 then
 some (decide ((x1.kids.length : Int) = 0))
 else
 some false)
 else
 some false)
 else
 some false)
 else
 (bif (decide (x1.kind = 2)) then
 (bif (decide (x1.name = (⟨#[]⟩ : ByteArray))) then
 (bif (decide (0 ≤ x1.n)) then
 (bif (decide (x1.n ≤ 999)) then
 (bif (decide ((x1.scopes.length : Int) = 0)) then
 some (decide ((x1.kids.length : Int) = 0))
 else
 some false)
 else
 some false)
 else
 some false)
 else
 some false)
 else
 (bif (decide (x1.kind ≠ 3)) then
 some false
 else
 (bif (decide (x1.name ≠ (⟨#[]⟩ : ByteArray))) then
 some false
 else
 (bif (decide (x1.n ≠ 0)) then
 some false
 else
 (bif (decide ((x1.scopes.length : Int) ≠ 0)) then
 some false
 else
 m_spec_l1Is_l1 fuel x1 x2 0)))))))
def m_spec_l1Is_l1 (fuel : Nat) (x1 : Form) (x2 : Int) (g17 : Int) : Option Bool :=
 match fuel with
 | 0 => none
 | fuel + 1 =>
 (bif (decide (g17 < (x1.kids.length : Int))) then
 (idx x1.kids g17).bind fun v21 =>
 (m_spec_l1Is fuel v21 (w64 (x2 - 1))).bind fun v22 =>
 (bif (!v22) then
 some false
 else
 m_spec_l1Is_l1 fuel x1 x2 (g17 + 1))
 else
 some true)
end
mutual
def m_spec_l1Count (fuel : Nat) (x1 : Form) : Option Int :=
 match fuel with
 | 0 => none
 | fuel + 1 =>
 m_spec_l1Count_l1 fuel x1 1 0
def m_spec_l1Count_l1 (fuel : Nat) (x1 : Form) (g1 : Int) (g2 : Int) : Option Int :=
 match fuel with
 | 0 => none
 | fuel + 1 =>
 (bif (decide (g2 < (x1.kids.length : Int))) then
 (idx x1.kids g2).bind fun v6 =>
 (m_spec_l1Count fuel v6).bind fun v7 =>
 m_spec_l1Count_l1 fuel x1 (w64 (g1 + v7)) (g2 + 1)
 else
 some g1)
end
def m_spec_FormValid (fuel : Nat) (x1 : Form) : Option Bool :=
 (m_spec_l1Is fuel x1 40).bind fun v1 =>
 (bif v1 then
 (m_spec_l1Count fuel x1).bind fun v3 =>
 some (decide (v3 ≤ 400))
 else
 some false)
def m_spec_l3Is (fuel : Nat) (x1 : Form) : Option Bool :=
 (bif (decide (x1.kind = 1)) then
 (m_spec_FormValid fuel x1).bind fun v2 =>
 some v2
 else
 some false)
def m_spec_l1Ints_l1 (fuel : Nat) (x1 : (List Int)) (x2 : (List Int)) (g2 : Int) : Option Bool :=
 match fuel with
 | 0 => none
 | fuel + 1 =>
 (bif (decide (g2 < (x1.length : Int))) then
 (idx x1 g2).bind fun v6 =>
 (idx x2 g2).bind fun v7 =>
 (bif (decide (v6 ≠ v7)) then
 some false
 else
 m_spec_l1Ints_l1 fuel x1 x2 (g2 + 1))
 else
 some true)
def m_spec_l1Ints (fuel : Nat) (x1 : (List Int)) (x2 : (List Int)) : Option Bool :=
 (bif (decide ((x1.length : Int) ≠ (x2.length : Int))) then
 some false
 else
 m_spec_l1Ints_l1 fuel x1 x2 0)
mutual
def m_spec_FormSame (fuel : Nat) (x1 : Form) (x2 : Form) : Option Bool :=
 match fuel with
 | 0 => none
 | fuel + 1 =>
 (bif (decide (x1.kind ≠ x2.kind)) then
 some false
 else
 (bif (decide (x1.name ≠ x2.name)) then
 some false
 else
 (bif (decide (x1.n ≠ x2.n)) then
 some false
 else
 (m_spec_l1Ints fuel x1.scopes x2.scopes).bind fun v4 =>
 (bif (!v4) then
 some false
 else
 (bif (decide ((x1.kids.length : Int) ≠ (x2.kids.length : Int))) then
 some false
 else
 m_spec_FormSame_l1 fuel x1 x2 0)))))
def m_spec_FormSame_l1 (fuel : Nat) (x1 : Form) (x2 : Form) (g7 : Int) : Option Bool :=
 match fuel with
 | 0 => none
 | fuel + 1 =>
 (bif (decide (g7 < (x1.kids.length : Int))) then
 (idx x1.kids g7).bind fun v11 =>
 (idx x2.kids g7).bind fun v12 =>
 (m_spec_FormSame fuel v11 v12).bind fun v13 =>
 (bif (!v13) then
 some false
 else
 m_spec_FormSame_l1 fuel x1 x2 (g7 + 1))
 else
 some true)
end
mutual
def m_spec_l4Hit (fuel : Nat) (x1 : Hit) (x2 : Int) : Option Bool :=
 match fuel with
 | 0 => none
 | fuel + 1 =>
 (bif (decide (x1.depth ≠ x2)) then
 some false
 else
 (bif (decide (x2 < 0)) then
 some false
 else
 (bif (decide (3 < x2)) then
 some false
 else
 (m_spec_l3Is fuel x1.name).bind fun v4 =>
 (bif (!v4) then
 some false
 else
 (bif (decide (x1.name.name = (⟨#[46, 46, 46]⟩ : ByteArray))) then
 some false
 else
 (bif (decide (x1.name.name = (⟨#[95]⟩ : ByteArray))) then
 some false
 else
 (bif (decide (x2 = 0)) then
 (m_spec_FormValid fuel x1.one).bind fun v9 =>
 (bif v9 then
 some (decide ((x1.many.length : Int) = 0))
 else
 some false)
 else
 m_spec_l4Hit_l1 fuel x1 x2 0)))))))
def m_spec_l4Hit_l1 (fuel : Nat) (x1 : Hit) (x2 : Int) (g11 : Int) : Option Bool :=
 match fuel with
 | 0 => none
 | fuel + 1 =>
 (bif (decide (g11 < (x1.many.length : Int))) then
 (idx x1.many g11).bind fun v15 =>
 (m_spec_FormSame fuel v15.name x1.name).bind fun v16 =>
 (bif (!v16) then
 some false
 else
 (idx x1.many g11).bind fun v18 =>
 (m_spec_l4Hit fuel v18 (w64 (x2 - 1))).bind fun v19 =>
 (bif (!v19) then
 some false
 else
 m_spec_l4Hit_l1 fuel x1 x2 (g11 + 1)))
 else
 (m_spec_FormSame fuel x1.one (Form.mk 0 (⟨#[]⟩ : ByteArray) 0 ([] : List Int) ([] : List Form))).bind fun v21 =>
 (bif v21 then
 some (decide ((x1.many.length : Int) ≤ 400))
 else
 some false))
end
mutual
def m_spec_HitsValid_l2 (fuel : Nat) (x1 : (List Hit)) (g1 : Int) (g9 : Int) : Option Bool :=
 match fuel with
 | 0 => none
 | fuel + 1 =>
 (bif (decide (g9 < g1)) then
 (idx x1 g9).bind fun v12 =>
 (idx x1 g1).bind fun v13 =>
 (m_spec_FormSame fuel v12.name v13.name).bind fun v14 =>
 (bif v14 then
 some false
 else
 m_spec_HitsValid_l2 fuel x1 g1 (w64 (g9 + 1)))
 else
 m_spec_HitsValid_l1 fuel x1 (w64 (g1 + 1)))
def m_spec_HitsValid_l1 (fuel : Nat) (x1 : (List Hit)) (g1 : Int) : Option Bool :=
 match fuel with
 | 0 => none
 | fuel + 1 =>
 (bif (decide (g1 < (x1.length : Int))) then
 (bif (decide (g1 ≤ 20)) then
 (idx x1 g1).bind fun v5 =>
 (idx x1 g1).bind fun v6 =>
 (m_spec_l4Hit fuel v5 v6.depth).bind fun v7 =>
 (bif (!v7) then
 some false
 else
 m_spec_HitsValid_l2 fuel x1 g1 0)
 else
 some (decide ((x1.length : Int) ≤ 20)))
 else
 some (decide ((x1.length : Int) ≤ 20)))
end
def m_spec_HitsValid (fuel : Nat) (x1 : (List Hit)) : Option Bool :=
 m_spec_HitsValid_l1 fuel x1 0
def m_spec_l4Dots (fuel : Nat) (x1 : Form) : Option Bool :=
 (bif (decide (x1.kind = 1)) then
 some (decide (x1.name = (⟨#[46, 46, 46]⟩ : ByteArray)))
 else
 some false)
def m_spec_l4Find_l1 (fuel : Nat) (x1 : (List Hit)) (x2 : Form) (g1 : Int) : Option Int :=
 match fuel with
 | 0 => none
 | fuel + 1 =>
 (bif (decide (g1 < (x1.length : Int))) then
 (idx x1 g1).bind fun v5 =>
 (m_spec_FormSame fuel v5.name x2).bind fun v6 =>
 (bif v6 then
 some g1
 else
 m_spec_l4Find_l1 fuel x1 x2 (g1 + 1))
 else
 some (-1))
def m_spec_l4Find (fuel : Nat) (x1 : (List Hit)) (x2 : Form) : Option Int :=
 m_spec_l4Find_l1 fuel x1 x2 0
def m_spec_l5Depth (fuel : Nat) (x1 : (List Hit)) (x2 : Form) : Option Int :=
 (bif (decide (x2.kind ≠ 1)) then
 some (-1)
 else
 (m_spec_l4Find fuel x1 x2).bind fun v2 =>
 (bif (decide (v2 < 0)) then
 some (-1)
 else
 (idx x1 v2).bind fun v4 =>
 some v4.depth))
mutual
def m_spec_l5Rows (fuel : Nat) (x1 : (List Hit)) (x2 : Form) : Option Bool :=
 match fuel with
 | 0 => none
 | fuel + 1 =>
 (m_spec_l5Depth fuel x1 x2).bind fun v1 =>
 (bif (decide (0 < v1)) then
 some true
 else
 m_spec_l5Rows_l1 fuel x1 x2 0)
def m_spec_l5Rows_l1 (fuel : Nat) (x1 : (List Hit)) (x2 : Form) (g3 : Int) : Option Bool :=
 match fuel with
 | 0 => none
 | fuel + 1 =>
 (bif (decide (g3 < (x2.kids.length : Int))) then
 (idx x2.kids g3).bind fun v7 =>
 (m_spec_l5Rows fuel x1 v7).bind fun v8 =>
 (bif v8 then
 some true
 else
 m_spec_l5Rows_l1 fuel x1 x2 (g3 + 1))
 else
 some false)
end
def m_spec_l5Less_l1 (fuel : Nat) (x1 : (List Hit)) (g1 : (List Hit)) (g2 : Int) : Option (List Hit) :=
 match fuel with
 | 0 => none
 | fuel + 1 =>
 (bif (decide (g2 < (x1.length : Int))) then
 (idx x1 g2).bind fun v6 =>
 (idx x1 g2).bind fun v7 =>
 (idx x1 g2).bind fun v8 =>
 (bif (decide (0 < v7.depth)) then
 chk (decide ((g1.length + [(Hit.mk v6.name (w64 (v7.depth - 1)) v8.one ([] : List Hit))].length) * 192 ≤ 140737488355328)) <|
 m_spec_l5Less_l1 fuel x1 (g1 ++ [(Hit.mk v6.name (w64 (v7.depth - 1)) v8.one ([] : List Hit))]) (g2 + 1)
 else
 chk (decide ((g1.length + [(Hit.mk v6.name v7.depth v8.one ([] : List Hit))].length) * 192 ≤ 140737488355328)) <|
 m_spec_l5Less_l1 fuel x1 (g1 ++ [(Hit.mk v6.name v7.depth v8.one ([] : List Hit))]) (g2 + 1))
 else
 some g1)
def m_spec_l5Less (fuel : Nat) (x1 : (List Hit)) : Option (List Hit) :=
 m_spec_l5Less_l1 fuel x1 ([] : List Hit) 0
mutual
def m_spec_l5Is (fuel : Nat) (x1 : Form) (x2 : (List Hit)) : Option Bool :=
 match fuel with
 | 0 => none
 | fuel + 1 =>
 (m_spec_l4Dots fuel x1).bind fun v1 =>
 (bif v1 then
 some false
 else
 (m_spec_l5Depth fuel x2 x1).bind fun v3 =>
 (bif (decide (0 < v3)) then
 some false
 else
 m_spec_l5Is_l1 fuel x1 x2 0))
def m_spec_l5Is_l1 (fuel : Nat) (x1 : Form) (x2 : (List Hit)) (g5 : Int) : Option Bool :=
 match fuel with
 | 0 => none
 | fuel + 1 =>
 (bif (decide (g5 < (x1.kids.length : Int))) then
 (idx x1.kids g5).bind fun v9 =>
 (m_spec_l4Dots fuel v9).bind fun v10 =>
 (bif v10 then
 (bif (decide (g5 = 0)) then
 some false
 else
 (idx x1.kids (w64 (g5 - 1))).bind fun v13 =>
 (m_spec_l4Dots fuel v13).bind fun v14 =>
 (bif v14 then
 some false
 else
 m_spec_l5Is_l1 fuel x1 x2 (g5 + 1)))
 else
 (bif (decide ((g5 + 1) < (x1.kids.length : Int))) then
 (idx x1.kids (g5 + 1)).bind fun v17 =>
 (m_spec_l4Dots fuel v17).bind fun v18 =>
 (bif v18 then
 (idx x1.kids g5).bind fun v20 =>
 (m_spec_l5Rows fuel x2 v20).bind fun v21 =>
 (bif (!v21) then
 some false
 else
 (idx x1.kids g5).bind fun v23 =>
 (m_spec_l5Less fuel x2).bind fun v24 =>
 (m_spec_l5Is fuel v23 v24).bind fun v25 =>
 (bif (!v25) then
 some false
 else
 m_spec_l5Is_l1 fuel x1 x2 (g5 + 1)))
 else
 (idx x1.kids g5).bind fun v27 =>
 (m_spec_l5Is fuel v27 x2).bind fun v28 =>
 (bif (!v28) then
 some false
 else
 m_spec_l5Is_l1 fuel x1 x2 (g5 + 1)))
 else
 (idx x1.kids g5).bind fun v30 =>
 (m_spec_l5Is fuel v30 x2).bind fun v31 =>
 (bif (!v31) then
 some false
 else
 m_spec_l5Is_l1 fuel x1 x2 (g5 + 1))))
 else
 some true)
end
def m_spec_TemplateValid (fuel : Nat) (x1 : Form) (x2 : (List Hit)) : Option Bool :=
 (m_spec_FormValid fuel x1).bind fun v1 =>
 (bif v1 then
 (m_spec_HitsValid fuel x2).bind fun v3 =>
 (bif v3 then
 (m_spec_l5Is fuel x1 x2).bind fun v5 =>
 some v5
 else
 some false)
 else
 some false)
def m_impl_hitVars_l1 (fuel : Nat) (x1 : (List Hit)) (g1 : (List Form)) (g2 : (List Int)) (g3 : Int) : Option ((List Form) × (List Int)) :=
 match fuel with
 | 0 => none
 | fuel + 1 =>
 (bif (decide (g3 < (x1.length : Int))) then
 (idx x1 g3).bind fun v7 =>
 chk (decide ((g1.length + [v7.name].length) * 80 ≤ 140737488355328)) <|
 chk (decide ((g2.length + [v7.depth].length) * 8 ≤ 140737488355328)) <|
 m_impl_hitVars_l1 fuel x1 (g1 ++ [v7.name]) (g2 ++ [v7.depth]) (g3 + 1)
 else
 some (g1, g2))
def m_impl_hitVars (fuel : Nat) (x1 : (List Hit)) : Option ((List Form) × (List Int)) :=
 m_impl_hitVars_l1 fuel x1 ([] : List Form) ([] : List Int) 0
def m_strings_IndexByte (fuel : Nat) (x1 : ByteArray) (x2 : Int) : Option Int :=
 some (Lib.indexByte x1.data.toList x2.toNat.toUInt8)
def m_impl_within (fuel : Nat) (x1 : Int) (x2 : Int) (x3 : Int) : Option Bool :=
 (bif (decide (x2 ≤ x1)) then
 some (decide (x1 ≤ x3))
 else
 some false)
def m_impl_NameValid_l1 (fuel : Nat) (x1 : ByteArray) (g3 : Int) : Option Bool :=
 match fuel with
 | 0 => none
 | fuel + 1 =>
 (bif (decide (g3 < (x1.size : Int))) then
 (bidx x1 g3).bind fun v6 =>
 (bif (decide (97 ≤ v6)) then
 (bif (decide (v6 ≤ 122)) then
 m_impl_NameValid_l1 fuel x1 (w64 (g3 + 1))
 else
 (m_strings_IndexByte fuel (⟨#[42, 63, 61, 43, 60]⟩ : ByteArray) v6).bind fun v9 =>
 (bif (decide (0 ≤ v9)) then
 m_impl_NameValid_l1 fuel x1 (w64 (g3 + 1))
 else
 (bif (decide (0 < g3)) then
 (bif (decide (48 ≤ v6)) then
 (bif (decide (v6 ≤ 57)) then
 m_impl_NameValid_l1 fuel x1 (w64 (g3 + 1))
 else
 (bif (decide (v6 = 45)) then
 m_impl_NameValid_l1 fuel x1 (w64 (g3 + 1))
 else
 some false))
 else
 (bif (decide (v6 = 45)) then
 m_impl_NameValid_l1 fuel x1 (w64 (g3 + 1))
 else
 some false))
 else
 some false)))
 else
 (m_strings_IndexByte fuel (⟨#[42, 63, 61, 43, 60]⟩ : ByteArray) v6).bind fun v16 =>
 (bif (decide (0 ≤ v16)) then
 m_impl_NameValid_l1 fuel x1 (w64 (g3 + 1))
 else
 (bif (decide (0 < g3)) then
 (bif (decide (48 ≤ v6)) then
 (bif (decide (v6 ≤ 57)) then
 m_impl_NameValid_l1 fuel x1 (w64 (g3 + 1))
 else
 (bif (decide (v6 = 45)) then
 m_impl_NameValid_l1 fuel x1 (w64 (g3 + 1))
 else
 some false))
 else
 (bif (decide (v6 = 45)) then
 m_impl_NameValid_l1 fuel x1 (w64 (g3 + 1))
 else
 some false))
 else
 some false)))
 else
 (m_impl_within fuel (x1.size : Int) 1 12).bind fun v23 =>
 some v23)
def m_impl_NameValid (fuel : Nat) (x1 : ByteArray) : Option Bool :=
 (bif (decide (x1 = (⟨#[46, 46, 46]⟩ : ByteArray))) then
 some true
 else
 (bif (decide (x1 = (⟨#[95]⟩ : ByteArray))) then
 some true
 else
 m_impl_NameValid_l1 fuel x1 0))
def m_impl_scopesOk_l1 (fuel : Nat) (x1 : (List Int)) (g1 : Int) : Option Bool :=
 match fuel with
 | 0 => none
 | fuel + 1 =>
 (bif (decide (g1 < (x1.length : Int))) then
 (idx x1 g1).bind fun v5 =>
 (m_impl_within fuel v5 1 99).bind fun v6 =>
 (bif (!v6) then
 some false
 else
 (bif (decide (0 < g1)) then
 (idx x1 (w64 (g1 - 1))).bind fun v9 =>
 (bif (decide (v5 ≤ v9)) then
 some false
 else
 m_impl_scopesOk_l1 fuel x1 (g1 + 1))
 else
 m_impl_scopesOk_l1 fuel x1 (g1 + 1)))
 else
 some (decide ((x1.length : Int) ≤ 24)))
def m_impl_scopesOk (fuel : Nat) (x1 : (List Int)) : Option Bool :=
 m_impl_scopesOk_l1 fuel x1 0
mutual
def m_impl_formOk (fuel : Nat) (x1 : Form) (x2 : Int) (o1 : Int) : Option (Bool × Int) :=
 match fuel with
 | 0 => none
 | fuel + 1 =>
 (bif (decide ((w64 (o1 - 1)) < 0)) then
 some (false, (w64 (o1 - 1)))
 else
 (bif (decide (40 < x2)) then
 some (false, (w64 (o1 - 1)))
 else
 (bif (decide (x1.kind = 1)) then
 (m_impl_NameValid fuel x1.name).bind fun v4 =>
 (bif v4 then
 (bif (decide (x1.n = 0)) then
 (m_impl_scopesOk fuel x1.scopes).bind fun v7 =>
 (bif v7 then
 some ((decide ((x1.kids.length : Int) = 0)), (w64 (o1 - 1)))
 else
 some (false, (w64 (o1 - 1))))
 else
 some (false, (w64 (o1 - 1))))
 else
 some (false, (w64 (o1 - 1))))
 else
 (bif (decide (x1.kind = 2)) then
 (bif (decide (x1.name = (⟨#[]⟩ : ByteArray))) then
 (m_impl_within fuel x1.n 0 999).bind fun v11 =>
 (bif v11 then
 (bif (decide ((x1.scopes.length : Int) = 0)) then
 some ((decide ((x1.kids.length : Int) = 0)), (w64 (o1 - 1)))
 else
 some (false, (w64 (o1 - 1))))
 else
 some (false, (w64 (o1 - 1))))
 else
 some (false, (w64 (o1 - 1))))
 else
 (bif (decide (x1.kind = 3)) then
 (bif (decide (x1.name ≠ (⟨#[]⟩ : ByteArray))) then
 some (false, (w64 (o1 - 1)))
 else
 (bif (decide (x1.n ≠ 0)) then
 some (false, (w64 (o1 - 1)))
 else
 (bif (decide (0 < (x1.scopes.length : Int))) then
 some (false, (w64 (o1 - 1)))
 else
 m_impl_formOk_l1 fuel x1 x2 0 (w64 (o1 - 1)))))
 else
 some (false, (w64 (o1 - 1))))))))
def m_impl_formOk_l1 (fuel : Nat) (x1 : Form) (x2 : Int) (g19 : Int) (g20 : Int) : Option (Bool × Int) :=
 match fuel with
 | 0 => none
 | fuel + 1 =>
 (bif (decide (g19 < (x1.kids.length : Int))) then
 (idx x1.kids g19).bind fun v24 =>
 (m_impl_formOk fuel v24 (w64 (x2 + 1)) g20).bind fun v25 =>
 (bif (!v25.1) then
 some (false, v25.2)
 else
 m_impl_formOk_l1 fuel x1 x2 (g19 + 1) v25.2)
 else
 some (true, g20))
end
def m_impl_FormValid (fuel : Nat) (x1 : Form) : Option Bool :=
 (m_impl_formOk fuel x1 1 400).bind fun v1 =>
 some v1.1
def m_impl_isName (fuel : Nat) (x1 : Form) : Option Bool :=
 (bif (decide (x1.kind = 1)) then
 (m_impl_FormValid fuel x1).bind fun v2 =>
 some v2
 else
 some false)
def m_slices_Equal_int_l1 (fuel : Nat) (x1 : (List Int)) (x2 : (List Int)) (g2 : Int) : Option Bool :=
 match fuel with
 | 0 => none
 | fuel + 1 =>
 (bif (decide (g2 < (x1.length : Int))) then
 (idx x1 g2).bind fun v6 =>
 (idx x2 g2).bind fun v7 =>
 (bif (decide (v6 ≠ v7)) then
 some false
 else
 m_slices_Equal_int_l1 fuel x1 x2 (g2 + 1))
 else
 some true)
def m_slices_Equal_int (fuel : Nat) (x1 : (List Int)) (x2 : (List Int)) : Option Bool :=
 (bif (decide ((x1.length : Int) ≠ (x2.length : Int))) then
 some false
 else
 m_slices_Equal_int_l1 fuel x1 x2 0)
mutual
def m_impl_FormSame (fuel : Nat) (x1 : Form) (x2 : Form) : Option Bool :=
 match fuel with
 | 0 => none
 | fuel + 1 =>
 (bif (decide (x1.kind = x2.kind)) then
 (bif (decide (x1.name = x2.name)) then
 (bif (decide (x1.n = x2.n)) then
 (m_slices_Equal_int fuel x1.scopes x2.scopes).bind fun v4 =>
 (bif v4 then
 (m_slices_EqualFunc_Form_FormSame fuel x1.kids x2.kids).bind fun v6 =>
 some v6
 else
 some false)
 else
 some false)
 else
 some false)
 else
 some false)
def m_slices_EqualFunc_Form_FormSame (fuel : Nat) (x1 : (List Form)) (x2 : (List Form)) : Option Bool :=
 match fuel with
 | 0 => none
 | fuel + 1 =>
 (bif (decide ((x1.length : Int) ≠ (x2.length : Int))) then
 some false
 else
 m_slices_EqualFunc_Form_FormSame_l1 fuel x1 x2 0)
def m_slices_EqualFunc_Form_FormSame_l1 (fuel : Nat) (x1 : (List Form)) (x2 : (List Form)) (g2 : Int) : Option Bool :=
 match fuel with
 | 0 => none
 | fuel + 1 =>
 (bif (decide (g2 < (x1.length : Int))) then
 (idx x1 g2).bind fun v6 =>
 (idx x2 g2).bind fun v7 =>
 (m_impl_FormSame fuel v6 v7).bind fun v8 =>
 (bif (!v8) then
 some false
 else
 m_slices_EqualFunc_Form_FormSame_l1 fuel x1 x2 (g2 + 1))
 else
 some true)
end
mutual
def m_impl_hitOk (fuel : Nat) (x1 : Hit) : Option Bool :=
 match fuel with
 | 0 => none
 | fuel + 1 =>
 (m_impl_isName fuel x1.name).bind fun v1 =>
 (bif (!v1) then
 some false
 else
 (bif (decide (x1.name.name = (⟨#[46, 46, 46]⟩ : ByteArray))) then
 some false
 else
 (bif (decide (x1.name.name = (⟨#[95]⟩ : ByteArray))) then
 some false
 else
 (m_impl_within fuel x1.depth 0 3).bind fun v5 =>
 (bif (!v5) then
 some false
 else
 (bif (decide (x1.depth = 0)) then
 (m_impl_FormValid fuel x1.one).bind fun v8 =>
 (bif v8 then
 some (decide ((x1.many.length : Int) = 0))
 else
 some false)
 else
 (m_impl_FormSame fuel x1.one (Form.mk 0 (⟨#[]⟩ : ByteArray) 0 ([] : List Int) ([] : List Form))).bind fun v10 =>
 (bif v10 then
 (bif (decide ((x1.many.length : Int) ≤ 400)) then
 (m_slices_ContainsFunc_Hit_hitOk_1 fuel x1.many x1).bind fun v13 =>
 some (!v13)
 else
 some false)
 else
 some false))))))
def m_impl_hitOk_1 (fuel : Nat) (x1 : Hit) (o1 : Hit) : Option Bool :=
 match fuel with
 | 0 => none
 | fuel + 1 =>
 (m_impl_FormSame fuel x1.name o1.name).bind fun v1 =>
 (bif (!v1) then
 some true
 else
 (bif (decide (x1.depth ≠ (w64 (o1.depth - 1)))) then
 some true
 else
 (m_impl_hitOk fuel x1).bind fun v4 =>
 some (!v4)))
def m_slices_ContainsFunc_Hit_hitOk_1 (fuel : Nat) (x1 : (List Hit)) (o1 : Hit) : Option Bool :=
 match fuel with
 | 0 => none
 | fuel + 1 =>
 (m_slices_IndexFunc_Hit_hitOk_1 fuel x1 o1).bind fun v1 =>
 some (decide (0 ≤ v1))
def m_slices_IndexFunc_Hit_hitOk_1 (fuel : Nat) (x1 : (List Hit)) (o1 : Hit) : Option Int :=
 match fuel with
 | 0 => none
 | fuel + 1 =>
 m_slices_IndexFunc_Hit_hitOk_1_l1 fuel x1 o1 0
def m_slices_IndexFunc_Hit_hitOk_1_l1 (fuel : Nat) (x1 : (List Hit)) (o1 : Hit) (g1 : Int) : Option Int :=
 match fuel with
 | 0 => none
 | fuel + 1 =>
 (bif (decide (g1 < (x1.length : Int))) then
 (idx x1 g1).bind fun v5 =>
 (m_impl_hitOk_1 fuel v5 o1).bind fun v6 =>
 (bif v6 then
 some g1
 else
 m_slices_IndexFunc_Hit_hitOk_1_l1 fuel x1 o1 (g1 + 1))
 else
 some (-1))
end
def m_impl_hitAt_1 (fuel : Nat) (x1 : Hit) (o1 : Form) : Option Bool :=
 (m_impl_FormSame fuel x1.name o1).bind fun v1 =>
 some v1
def m_slices_IndexFunc_Hit_hitAt_1_l1 (fuel : Nat) (x1 : (List Hit)) (o1 : Form) (g1 : Int) : Option Int :=
 match fuel with
 | 0 => none
 | fuel + 1 =>
 (bif (decide (g1 < (x1.length : Int))) then
 (idx x1 g1).bind fun v5 =>
 (m_impl_hitAt_1 fuel v5 o1).bind fun v6 =>
 (bif v6 then
 some g1
 else
 m_slices_IndexFunc_Hit_hitAt_1_l1 fuel x1 o1 (g1 + 1))
 else
 some (-1))
def m_slices_IndexFunc_Hit_hitAt_1 (fuel : Nat) (x1 : (List Hit)) (o1 : Form) : Option Int :=
 m_slices_IndexFunc_Hit_hitAt_1_l1 fuel x1 o1 0
def m_impl_hitAt (fuel : Nat) (x1 : (List Hit)) (x2 : Form) : Option Int :=
 (m_slices_IndexFunc_Hit_hitAt_1 fuel x1 x2).bind fun v1 =>
 some v1
def m_impl_HitsValid_l1 (fuel : Nat) (x1 : (List Hit)) (g1 : Int) : Option Bool :=
 match fuel with
 | 0 => none
 | fuel + 1 =>
 (bif (decide (g1 < (x1.length : Int))) then
 (idx x1 g1).bind fun v5 =>
 (m_impl_hitOk fuel v5).bind fun v6 =>
 (bif (!v6) then
 some false
 else
 (sub x1 0 g1).bind fun v8 =>
 (m_impl_hitAt fuel v8 v5.name).bind fun v9 =>
 (bif (decide (0 ≤ v9)) then
 some false
 else
 m_impl_HitsValid_l1 fuel x1 (g1 + 1)))
 else
 some (decide ((x1.length : Int) ≤ 20)))
def m_impl_HitsValid (fuel : Nat) (x1 : (List Hit)) : Option Bool :=
 m_impl_HitsValid_l1 fuel x1 0
def m_impl_named (fuel : Nat) (x1 : Form) (x2 : ByteArray) : Option Bool :=
 (bif (decide (x1.kind = 1)) then
 some (decide (x1.name = x2))
 else
 some false)
def m_impl_dotsAt_1 (fuel : Nat) (x1 : Form) : Option Bool :=
 (m_impl_named fuel x1 (⟨#[46, 46, 46]⟩ : ByteArray)).bind fun v1 =>
 some v1
def m_slices_IndexFunc_Form_dotsAt_1_l1 (fuel : Nat) (x1 : (List Form)) (g1 : Int) : Option Int :=
 match fuel with
 | 0 => none
 | fuel + 1 =>
 (bif (decide (g1 < (x1.length : Int))) then
 (idx x1 g1).bind fun v5 =>
 (m_impl_dotsAt_1 fuel v5).bind fun v6 =>
 (bif v6 then
 some g1
 else
 m_slices_IndexFunc_Form_dotsAt_1_l1 fuel x1 (g1 + 1))
 else
 some (-1))
def m_slices_IndexFunc_Form_dotsAt_1 (fuel : Nat) (x1 : (List Form)) : Option Int :=
 m_slices_IndexFunc_Form_dotsAt_1_l1 fuel x1 0
def m_impl_dotsAt (fuel : Nat) (x1 : (List Form)) : Option Int :=
 (m_slices_IndexFunc_Form_dotsAt_1 fuel x1).bind fun v1 =>
 some v1
mutual
def m_impl_dotsOk (fuel : Nat) (x1 : Form) (x2 : Bool) : Option Bool :=
 match fuel with
 | 0 => none
 | fuel + 1 =>
 m_impl_dotsOk_l1 fuel x1 x2 0
def m_impl_dotsOk_l1 (fuel : Nat) (x1 : Form) (x2 : Bool) (g1 : Int) : Option Bool :=
 match fuel with
 | 0 => none
 | fuel + 1 =>
 (bif (decide (g1 < (x1.kids.length : Int))) then
 (idx x1.kids g1).bind fun v5 =>
 (m_impl_named fuel v5 (⟨#[46, 46, 46]⟩ : ByteArray)).bind fun v6 =>
 (bif v6 then
 (bif (decide (g1 = 0)) then
 some false
 else
 (idx x1.kids (w64 (g1 - 1))).bind fun v9 =>
 (m_impl_named fuel v9 (⟨#[46, 46, 46]⟩ : ByteArray)).bind fun v10 =>
 (bif v10 then
 some false
 else
 (bif x2 then
 (sub x1.kids 0 g1).bind fun v13 =>
 (m_impl_dotsAt fuel v13).bind fun v14 =>
 (bif (decide (0 ≤ v14)) then
 some false
 else
 m_impl_dotsOk_l1 fuel x1 x2 (g1 + 1))
 else
 m_impl_dotsOk_l1 fuel x1 x2 (g1 + 1))))
 else
 (m_impl_dotsOk fuel v5 x2).bind fun v16 =>
 (bif (!v16) then
 some false
 else
 m_impl_dotsOk_l1 fuel x1 x2 (g1 + 1)))
 else
 some true)
end
def m_impl_depthIn_1 (fuel : Nat) (x1 : Form) (o1 : Form) : Option Bool :=
 (m_impl_FormSame fuel x1 o1).bind fun v1 =>
 some v1
def m_slices_IndexFunc_Form_depthIn_1_l1 (fuel : Nat) (x1 : (List Form)) (o1 : Form) (g1 : Int) : Option Int :=
 match fuel with
 | 0 => none
 | fuel + 1 =>
 (bif (decide (g1 < (x1.length : Int))) then
 (idx x1 g1).bind fun v5 =>
 (m_impl_depthIn_1 fuel v5 o1).bind fun v6 =>
 (bif v6 then
 some g1
 else
 m_slices_IndexFunc_Form_depthIn_1_l1 fuel x1 o1 (g1 + 1))
 else
 some (-1))
def m_slices_IndexFunc_Form_depthIn_1 (fuel : Nat) (x1 : (List Form)) (o1 : Form) : Option Int :=
 m_slices_IndexFunc_Form_depthIn_1_l1 fuel x1 o1 0
def m_impl_depthIn (fuel : Nat) (x1 : (List Form)) (x2 : (List Int)) (x3 : Form) : Option Int :=
 (bif (decide (x3.kind ≠ 1)) then
 some (-1)
 else
 (m_slices_IndexFunc_Form_depthIn_1 fuel x1 x3).bind fun v2 =>
 (bif (decide (v2 < 0)) then
 some (-1)
 else
 (idx x2 v2).bind fun v4 =>
 some v4))
def m_impl_rowsOk_1 (fuel : Nat) (x1 : Form) (o1 : Bool) (o2 : (List Form)) (o3 : (List Int)) (o4 : Int) : Option Bool :=
 (bif o1 then
 some true
 else
 (m_impl_depthIn fuel o2 o3 x1).bind fun v2 =>
 some (decide (o4 < v2)))
mutual
def m_impl_eachForm_rowsOk_1 (fuel : Nat) (x1 : Form) (o1 : Bool) (o2 : (List Form)) (o3 : (List Int)) (o4 : Int) : Option Bool :=
 match fuel with
 | 0 => none
 | fuel + 1 =>
 (m_impl_rowsOk_1 fuel x1 o1 o2 o3 o4).bind fun v1 =>
 m_impl_eachForm_rowsOk_1_l1 fuel x1 o2 o3 o4 0 v1
def m_impl_eachForm_rowsOk_1_l1 (fuel : Nat) (x1 : Form) (o2 : (List Form)) (o3 : (List Int)) (o4 : Int) (g2 : Int) (g3 : Bool) : Option Bool :=
 match fuel with
 | 0 => none
 | fuel + 1 =>
 (bif (decide (g2 < (x1.kids.length : Int))) then
 (idx x1.kids g2).bind fun v7 =>
 (m_impl_eachForm_rowsOk_1 fuel v7 g3 o2 o3 o4).bind fun v8 =>
 m_impl_eachForm_rowsOk_1_l1 fuel x1 o2 o3 o4 (g2 + 1) v8
 else
 some g3)
end
mutual
def m_impl_rowsOk (fuel : Nat) (x1 : Form) (x2 : (List Form)) (x3 : (List Int)) (x4 : Int) : Option Bool :=
 match fuel with
 | 0 => none
 | fuel + 1 =>
 (m_impl_depthIn fuel x2 x3 x1).bind fun v1 =>
 (bif (decide (x4 < v1)) then
 some false
 else
 m_impl_rowsOk_l1 fuel x1 x2 x3 x4 0)
def m_impl_rowsOk_l1 (fuel : Nat) (x1 : Form) (x2 : (List Form)) (x3 : (List Int)) (x4 : Int) (g3 : Int) : Option Bool :=
 match fuel with
 | 0 => none
 | fuel + 1 =>
 (bif (decide (g3 < (x1.kids.length : Int))) then
 (idx x1.kids g3).bind fun v7 =>
 (m_impl_named fuel v7 (⟨#[46, 46, 46]⟩ : ByteArray)).bind fun v8 =>
 (bif v8 then
 m_impl_rowsOk_l1 fuel x1 x2 x3 x4 (g3 + 1)
 else
 (bif (decide ((g3 + 1) < (x1.kids.length : Int))) then
 (idx x1.kids (g3 + 1)).bind fun v11 =>
 (m_impl_named fuel v11 (⟨#[46, 46, 46]⟩ : ByteArray)).bind fun v12 =>
 (bif v12 then
 (m_impl_eachForm_rowsOk_1 fuel v7 false x2 x3 x4).bind fun v14 =>
 (bif (!v14) then
 some false
 else
 (m_impl_rowsOk fuel v7 x2 x3 (w64 (x4 + 1))).bind fun v16 =>
 (bif (!v16) then
 some false
 else
 m_impl_rowsOk_l1 fuel x1 x2 x3 x4 (g3 + 1)))
 else
 (m_impl_rowsOk fuel v7 x2 x3 x4).bind fun v18 =>
 (bif (!v18) then
 some false
 else
 m_impl_rowsOk_l1 fuel x1 x2 x3 x4 (g3 + 1)))
 else
 (m_impl_rowsOk fuel v7 x2 x3 x4).bind fun v20 =>
 (bif (!v20) then
 some false
 else
 m_impl_rowsOk_l1 fuel x1 x2 x3 x4 (g3 + 1))))
 else
 some true)
end
def m_impl_templateOk (fuel : Nat) (x1 : Form) (x2 : (List Form)) (x3 : (List Int)) : Option Bool :=
 (m_impl_FormValid fuel x1).bind fun v1 =>
 (bif v1 then
 (m_impl_named fuel x1 (⟨#[46, 46, 46]⟩ : ByteArray)).bind fun v3 =>
 (bif (!v3) then
 (m_impl_dotsOk fuel x1 false).bind fun v5 =>
 (bif v5 then
 (m_impl_rowsOk fuel x1 x2 x3 0).bind fun v7 =>
 some v7
 else
 some false)
 else
 some false)
 else
 some false)
def m_impl_TemplateValid (fuel : Nat) (x1 : Form) (x2 : (List Hit)) : Option Bool :=
 (m_impl_hitVars fuel x2).bind fun v1 =>
 (m_impl_HitsValid fuel x2).bind fun v2 =>
 (bif v2 then
 (m_impl_templateOk fuel x1 v1.1 v1.2).bind fun v4 =>
 some v4
 else
 some false)
def m_laws_eqIntS_l1 (fuel : Nat) (x1 : (List Int)) (x2 : (List Int)) (g2 : Int) : Option Bool :=
 match fuel with
 | 0 => none
 | fuel + 1 =>
 (bif (decide (g2 < (x1.length : Int))) then
 (idx x1 g2).bind fun v6 =>
 (idx x2 g2).bind fun v7 =>
 (bif (decide (v6 ≠ v7)) then
 some false
 else
 m_laws_eqIntS_l1 fuel x1 x2 (g2 + 1))
 else
 some true)
def m_laws_eqIntS (fuel : Nat) (x1 : (List Int)) (x2 : (List Int)) : Option Bool :=
 (bif (decide ((x1.length : Int) ≠ (x2.length : Int))) then
 some false
 else
 m_laws_eqIntS_l1 fuel x1 x2 0)
mutual
def m_laws_eqForm (fuel : Nat) (x1 : Form) (x2 : Form) : Option Bool :=
 match fuel with
 | 0 => none
 | fuel + 1 =>
 (bif (decide (x1.kind ≠ x2.kind)) then
 some false
 else
 (bif (decide (x1.name ≠ x2.name)) then
 some false
 else
 (bif (decide (x1.n ≠ x2.n)) then
 some false
 else
 (m_laws_eqIntS fuel x1.scopes x2.scopes).bind fun v4 =>
 (bif (!v4) then
 some false
 else
 (m_laws_eqFormS fuel x1.kids x2.kids).bind fun v6 =>
 (bif (!v6) then
 some false
 else
 some true)))))
def m_laws_eqFormS (fuel : Nat) (x1 : (List Form)) (x2 : (List Form)) : Option Bool :=
 match fuel with
 | 0 => none
 | fuel + 1 =>
 (bif (decide ((x1.length : Int) ≠ (x2.length : Int))) then
 some false
 else
 m_laws_eqFormS_l1 fuel x1 x2 0)
def m_laws_eqFormS_l1 (fuel : Nat) (x1 : (List Form)) (x2 : (List Form)) (g2 : Int) : Option Bool :=
 match fuel with
 | 0 => none
 | fuel + 1 =>
 (bif (decide (g2 < (x1.length : Int))) then
 (idx x1 g2).bind fun v6 =>
 (idx x2 g2).bind fun v7 =>
 (m_laws_eqForm fuel v6 v7).bind fun v8 =>
 (bif (!v8) then
 some false
 else
 m_laws_eqFormS_l1 fuel x1 x2 (g2 + 1))
 else
 some true)
end
mutual
def m_laws_eqHit (fuel : Nat) (x1 : Hit) (x2 : Hit) : Option Bool :=
 match fuel with
 | 0 => none
 | fuel + 1 =>
 (m_laws_eqForm fuel x1.name x2.name).bind fun v1 =>
 (bif (!v1) then
 some false
 else
 (bif (decide (x1.depth ≠ x2.depth)) then
 some false
 else
 (m_laws_eqForm fuel x1.one x2.one).bind fun v4 =>
 (bif (!v4) then
 some false
 else
 (m_laws_eqHitS fuel x1.many x2.many).bind fun v6 =>
 (bif (!v6) then
 some false
 else
 some true))))
def m_laws_eqHitS (fuel : Nat) (x1 : (List Hit)) (x2 : (List Hit)) : Option Bool :=
 match fuel with
 | 0 => none
 | fuel + 1 =>
 (bif (decide ((x1.length : Int) ≠ (x2.length : Int))) then
 some false
 else
 m_laws_eqHitS_l1 fuel x1 x2 0)
def m_laws_eqHitS_l1 (fuel : Nat) (x1 : (List Hit)) (x2 : (List Hit)) (g2 : Int) : Option Bool :=
 match fuel with
 | 0 => none
 | fuel + 1 =>
 (bif (decide (g2 < (x1.length : Int))) then
 (idx x1 g2).bind fun v6 =>
 (idx x2 g2).bind fun v7 =>
 (m_laws_eqHit fuel v6 v7).bind fun v8 =>
 (bif (!v8) then
 some false
 else
 m_laws_eqHitS_l1 fuel x1 x2 (g2 + 1))
 else
 some true)
end
def m_impl_isIn_1 (fuel : Nat) (x1 : Form) (o1 : Form) : Option Bool :=
 (m_impl_FormSame fuel x1 o1).bind fun v1 =>
 some v1
def m_slices_IndexFunc_Form_isIn_1_l1 (fuel : Nat) (x1 : (List Form)) (o1 : Form) (g1 : Int) : Option Int :=
 match fuel with
 | 0 => none
 | fuel + 1 =>
 (bif (decide (g1 < (x1.length : Int))) then
 (idx x1 g1).bind fun v5 =>
 (m_impl_isIn_1 fuel v5 o1).bind fun v6 =>
 (bif v6 then
 some g1
 else
 m_slices_IndexFunc_Form_isIn_1_l1 fuel x1 o1 (g1 + 1))
 else
 some (-1))
def m_slices_IndexFunc_Form_isIn_1 (fuel : Nat) (x1 : (List Form)) (o1 : Form) : Option Int :=
 m_slices_IndexFunc_Form_isIn_1_l1 fuel x1 o1 0
def m_slices_ContainsFunc_Form_isIn_1 (fuel : Nat) (x1 : (List Form)) (o1 : Form) : Option Bool :=
 (m_slices_IndexFunc_Form_isIn_1 fuel x1 o1).bind fun v1 =>
 some (decide (0 ≤ v1))
def m_impl_isIn (fuel : Nat) (x1 : (List Form)) (x2 : Form) : Option Bool :=
 (m_slices_ContainsFunc_Form_isIn_1 fuel x1 x2).bind fun v1 =>
 some v1
def m_impl_isVar (fuel : Nat) (x1 : Form) (x2 : (List Form)) : Option Bool :=
 (bif (decide (x1.kind = 1)) then
 (bif (decide (x1.name ≠ (⟨#[46, 46, 46]⟩ : ByteArray))) then
 (bif (decide (x1.name ≠ (⟨#[95]⟩ : ByteArray))) then
 (m_impl_isIn fuel x2 x1).bind fun v4 =>
 some (!v4)
 else
 some false)
 else
 some false)
 else
 some false)
mutual
def m_impl_patternVars (fuel : Nat) (x1 : Form) (x2 : (List Form)) (x3 : Int) (o1 : (List Form)) (o2 : (List Int)) : Option ((List Form) × (List Int)) :=
 match fuel with
 | 0 => none
 | fuel + 1 =>
 (m_impl_isVar fuel x1 x2).bind fun v1 =>
 (bif v1 then
 chk (decide ((o1.length + [(Form.mk 0 (⟨#[]⟩ : ByteArray) 0 ([] : List Int) ([] : List Form))].length) * 80 ≤ 140737488355328)) <|
 (idx (o1 ++ [(Form.mk 0 (⟨#[]⟩ : ByteArray) 0 ([] : List Int) ([] : List Form))]) (o1.length : Int)).bind fun v4 =>
 chk (decide ((o2.length + [x3].length) * 8 ≤ 140737488355328)) <|
 m_impl_patternVars_l1 fuel x1 x2 x3 0 ((o1 ++ [(Form.mk 0 (⟨#[]⟩ : ByteArray) 0 ([] : List Int) ([] : List Form))]).set (o1.length : Int).toNat x1) (o2 ++ [x3])
 else
 m_impl_patternVars_l1 fuel x1 x2 x3 0 o1 o2)
def m_impl_patternVars_l1 (fuel : Nat) (x1 : Form) (x2 : (List Form)) (x3 : Int) (g6 : Int) (g7 : (List Form)) (g8 : (List Int)) : Option ((List Form) × (List Int)) :=
 match fuel with
 | 0 => none
 | fuel + 1 =>
 (bif (decide (g6 < (x1.kids.length : Int))) then
 (idx x1.kids g6).bind fun v12 =>
 (bif (decide ((g6 + 1) < (x1.kids.length : Int))) then
 (idx x1.kids (g6 + 1)).bind fun v14 =>
 (m_impl_named fuel v14 (⟨#[46, 46, 46]⟩ : ByteArray)).bind fun v15 =>
 (bif v15 then
 (m_impl_patternVars fuel v12 x2 (w64 (x3 + 1)) g7 g8).bind fun v17 =>
 m_impl_patternVars_l1 fuel x1 x2 x3 (g6 + 1) v17.1 v17.2
 else
 (m_impl_patternVars fuel v12 x2 x3 g7 g8).bind fun v18 =>
 m_impl_patternVars_l1 fuel x1 x2 x3 (g6 + 1) v18.1 v18.2)
 else
 (m_impl_patternVars fuel v12 x2 x3 g7 g8).bind fun v19 =>
 m_impl_patternVars_l1 fuel x1 x2 x3 (g6 + 1) v19.1 v19.2)
 else
 some (g7, g8))
end
end Go.Abs
