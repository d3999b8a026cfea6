/- A part of the proof: what the functions that the law calls answer, as pure values. -/
import Derived.Test.YtbkdbbfgdjcfgaaK99278a978e87
set_option linter.unusedSimpArgs false
set_option linter.unusedVariables false
set_option maxHeartbeats 4000000
namespace Go.Abs
def m_laws_szIntS (fuel : Nat) (x1 : (List Int)) (x2 : Int) : Option Int :=
 (bif (decide ((w64 (x2 - (x1.length : Int))) < 0)) then
 some (-1)
 else
 some (w64 (x2 - (x1.length : Int))))
mutual
def m_laws_szForm (fuel : Nat) (x1 : Form) (x2 : Int) : Option Int :=
 match fuel with
 | 0 => none
 | fuel + 1 =>
 (bif (decide ((w64 (x2 - (x1.name.size : Int))) < 0)) then
 some (-1)
 else
 (m_laws_szIntS fuel x1.scopes (w64 (x2 - (x1.name.size : Int)))).bind fun v2 =>
 (bif (decide (v2 < 0)) then
 some (-1)
 else
 (m_laws_szFormS fuel x1.kids v2).bind fun v4 =>
 (bif (decide (v4 < 0)) then
 some (-1)
 else
 some v4)))
def m_laws_szFormS (fuel : Nat) (x1 : (List Form)) (x2 : Int) : Option Int :=
 match fuel with
 | 0 => none
 | fuel + 1 =>
 (bif (decide ((w64 (x2 - (x1.length : Int))) < 0)) then
 some (-1)
 else
 m_laws_szFormS_l1 fuel x1 (w64 (x2 - (x1.length : Int))) 0)
def m_laws_szFormS_l1 (fuel : Nat) (x1 : (List Form)) (g2 : Int) (g3 : Int) : Option Int :=
 match fuel with
 | 0 => none
 | fuel + 1 =>
 (bif (decide (g3 < (x1.length : Int))) then
 (idx x1 g3).bind fun v7 =>
 (m_laws_szForm fuel v7 g2).bind fun v8 =>
 (bif (decide (v8 < 0)) then
 some (-1)
 else
 m_laws_szFormS_l1 fuel x1 v8 (g3 + 1))
 else
 some g2)
end
def m_laws_toIntS_l1 (fuel : Nat) (x1 : (List Int)) (g2 : Int) (g3 : (List Int)) : Option (List Int) :=
 match fuel with
 | 0 => none
 | fuel + 1 =>
 (bif (decide (g2 < (x1.length : Int))) then
 (idx x1 g2).bind fun v7 =>
 (idx g3 g2).bind fun v8 =>
 m_laws_toIntS_l1 fuel x1 (g2 + 1) (g3.set g2.toNat v7)
 else
 some g3)
def m_laws_toIntS (fuel : Nat) (x1 : (List Int)) : Option (List Int) :=
 chk (decide (0 ≤ (x1.length : Int)) && decide ((x1.length : Int).toNat * 8 ≤ 140737488355328)) <|
 m_laws_toIntS_l1 fuel x1 0 (List.replicate (x1.length : Int).toNat 0)
mutual
def m_laws_toForm (fuel : Nat) (x1 : Form) : Option Form :=
 match fuel with
 | 0 => none
 | fuel + 1 =>
 (m_laws_toIntS fuel x1.scopes).bind fun v1 =>
 (m_laws_toFormS fuel x1.kids).bind fun v2 =>
 some (Form.mk x1.kind x1.name x1.n v1 v2)
def m_laws_toFormS (fuel : Nat) (x1 : (List Form)) : Option (List Form) :=
 match fuel with
 | 0 => none
 | fuel + 1 =>
 chk (decide (0 ≤ (x1.length : Int)) && decide ((x1.length : Int).toNat * 80 ≤ 140737488355328)) <|
 m_laws_toFormS_l1 fuel x1 0 (List.replicate (x1.length : Int).toNat (Form.mk 0 (⟨#[]⟩ : ByteArray) 0 ([] : List Int) ([] : List Form)))
def m_laws_toFormS_l1 (fuel : Nat) (x1 : (List Form)) (g2 : Int) (g3 : (List Form)) : Option (List Form) :=
 match fuel with
 | 0 => none
 | fuel + 1 =>
 (bif (decide (g2 < (x1.length : Int))) then
 (idx x1 g2).bind fun v7 =>
 (m_laws_toForm fuel v7).bind fun v8 =>
 (idx g3 g2).bind fun v9 =>
 m_laws_toFormS_l1 fuel x1 (g2 + 1) (g3.set g2.toNat v8)
 else
 some g3)
end
def m_laws_eqIntS_l1 (fuel : Nat) (x1 : (List Int)) (x2 : (List Int)) (g2 : Int) : Option Bool :=
 match fuel with
 | 0 => none
 | fuel + 1 =>
 (bif (decide (g2 < (x1.length : Int))) then
 (idx x1 g2).bind fun v6 =>
 (idx x2 g2).bind fun v7 =>
 (bif (decide (v6 ≠ v7)) then
 some false
 else
 m_laws_eqIntS_l1 fuel x1 x2 (g2 + 1))
 else
 some true)
def m_laws_eqIntS (fuel : Nat) (x1 : (List Int)) (x2 : (List Int)) : Option Bool :=
 (bif (decide ((x1.length : Int) ≠ (x2.length : Int))) then
 some false
 else
 m_laws_eqIntS_l1 fuel x1 x2 0)
mutual
def m_laws_eqForm (fuel : Nat) (x1 : Form) (x2 : Form) : Option Bool :=
 match fuel with
 | 0 => none
 | fuel + 1 =>
 (bif (decide (x1.kind ≠ x2.kind)) then
 some false
 else
 (bif (decide (x1.name ≠ x2.name)) then
 some false
 else
 (bif (decide (x1.n ≠ x2.n)) then
 some false
 else
 (m_laws_eqIntS fuel x1.scopes x2.scopes).bind fun v4 =>
 (bif (!v4) then
 some false
 else
 (m_laws_eqFormS fuel x1.kids x2.kids).bind fun v6 =>
 (bif (!v6) then
 some false
 else
 some true)))))
def m_laws_eqFormS (fuel : Nat) (x1 : (List Form)) (x2 : (List Form)) : Option Bool :=
 match fuel with
 | 0 => none
 | fuel + 1 =>
 (bif (decide ((x1.length : Int) ≠ (x2.length : Int))) then
 some false
 else
 m_laws_eqFormS_l1 fuel x1 x2 0)
def m_laws_eqFormS_l1 (fuel : Nat) (x1 : (List Form)) (x2 : (List Form)) (g2 : Int) : Option Bool :=
 match fuel with
 | 0 => none
 | fuel + 1 =>
 (bif (decide (g2 < (x1.length : Int))) then
 (idx x1 g2).bind fun v6 =>
 (idx x2 g2).bind fun v7 =>
 (m_laws_eqForm fuel v6 v7).bind fun v8 =>
 (bif (!v8) then
 some false
 else
 m_laws_eqFormS_l1 fuel x1 x2 (g2 + 1))
 else
 some true)
end
def m_slices_Index_string_l1 (fuel : Nat) (x1 : (List ByteArray)) (x2 : ByteArray) (g1 : Int) : Option Int :=
 match fuel with
 | 0 => none
 | fuel + 1 =>
 (bif (decide (g1 < (x1.length : Int))) then
 (idx x1 g1).bind fun v5 =>
 (bif (decide (x2 = v5)) then
 some g1
 else
 m_slices_Index_string_l1 fuel x1 x2 (g1 + 1))
 else
 some (-1))
def m_slices_Index_string (fuel : Nat) (x1 : (List ByteArray)) (x2 : ByteArray) : Option Int :=
 m_slices_Index_string_l1 fuel x1 x2 0
def m_slices_Contains_string (fuel : Nat) (x1 : (List ByteArray)) (x2 : ByteArray) : Option Bool :=
 (m_slices_Index_string fuel x1 x2).bind fun v1 =>
 some (decide (0 ≤ v1))
mutual
def m_laws_szCore (fuel : Nat) (x1 : Core) (x2 : Int) : Option Int :=
 match fuel with
 | 0 => none
 | fuel + 1 =>
 (bif (decide ((w64 (x2 - (x1.name.size : Int))) < 0)) then
 some (-1)
 else
 (m_laws_szIntS fuel x1.ids (w64 (x2 - (x1.name.size : Int)))).bind fun v2 =>
 (bif (decide (v2 < 0)) then
 some (-1)
 else
 (m_laws_szForm fuel x1.data v2).bind fun v4 =>
 (bif (decide (v4 < 0)) then
 some (-1)
 else
 (m_laws_szCoreS fuel x1.kids v4).bind fun v6 =>
 (bif (decide (v6 < 0)) then
 some (-1)
 else
 some v6))))
def m_laws_szCoreS (fuel : Nat) (x1 : (List Core)) (x2 : Int) : Option Int :=
 match fuel with
 | 0 => none
 | fuel + 1 =>
 (bif (decide ((w64 (x2 - (x1.length : Int))) < 0)) then
 some (-1)
 else
 m_laws_szCoreS_l1 fuel x1 (w64 (x2 - (x1.length : Int))) 0)
def m_laws_szCoreS_l1 (fuel : Nat) (x1 : (List Core)) (g2 : Int) (g3 : Int) : Option Int :=
 match fuel with
 | 0 => none
 | fuel + 1 =>
 (bif (decide (g3 < (x1.length : Int))) then
 (idx x1 g3).bind fun v7 =>
 (m_laws_szCore fuel v7 g2).bind fun v8 =>
 (bif (decide (v8 < 0)) then
 some (-1)
 else
 m_laws_szCoreS_l1 fuel x1 v8 (g3 + 1))
 else
 some g2)
end
mutual
def m_laws_toCore (fuel : Nat) (x1 : Core) : Option Core :=
 match fuel with
 | 0 => none
 | fuel + 1 =>
 (m_laws_toIntS fuel x1.ids).bind fun v1 =>
 (m_laws_toForm fuel x1.data).bind fun v2 =>
 (m_laws_toCoreS fuel x1.kids).bind fun v3 =>
 some (Core.mk x1.kind x1.id x1.name x1.n v1 v2 v3)
def m_laws_toCoreS (fuel : Nat) (x1 : (List Core)) : Option (List Core) :=
 match fuel with
 | 0 => none
 | fuel + 1 =>
 chk (decide (0 ≤ (x1.length : Int)) && decide ((x1.length : Int).toNat * 168 ≤ 140737488355328)) <|
 m_laws_toCoreS_l1 fuel x1 0 (List.replicate (x1.length : Int).toNat (Core.mk 0 0 (⟨#[]⟩ : ByteArray) 0 ([] : List Int) (Form.mk 0 (⟨#[]⟩ : ByteArray) 0 ([] : List Int) ([] : List Form)) ([] : List Core)))
def m_laws_toCoreS_l1 (fuel : Nat) (x1 : (List Core)) (g2 : Int) (g3 : (List Core)) : Option (List Core) :=
 match fuel with
 | 0 => none
 | fuel + 1 =>
 (bif (decide (g2 < (x1.length : Int))) then
 (idx x1 g2).bind fun v7 =>
 (m_laws_toCore fuel v7).bind fun v8 =>
 (idx g3 g2).bind fun v9 =>
 m_laws_toCoreS_l1 fuel x1 (g2 + 1) (g3.set g2.toNat v8)
 else
 some g3)
end
mutual
def m_laws_eqCore (fuel : Nat) (x1 : Core) (x2 : Core) : Option Bool :=
 match fuel with
 | 0 => none
 | fuel + 1 =>
 (bif (decide (x1.kind ≠ x2.kind)) then
 some false
 else
 (bif (decide (x1.id ≠ x2.id)) then
 some false
 else
 (bif (decide (x1.name ≠ x2.name)) then
 some false
 else
 (bif (decide (x1.n ≠ x2.n)) then
 some false
 else
 (m_laws_eqIntS fuel x1.ids x2.ids).bind fun v5 =>
 (bif (!v5) then
 some false
 else
 (m_laws_eqForm fuel x1.data x2.data).bind fun v7 =>
 (bif (!v7) then
 some false
 else
 (m_laws_eqCoreS fuel x1.kids x2.kids).bind fun v9 =>
 (bif (!v9) then
 some false
 else
 some true)))))))
def m_laws_eqCoreS (fuel : Nat) (x1 : (List Core)) (x2 : (List Core)) : Option Bool :=
 match fuel with
 | 0 => none
 | fuel + 1 =>
 (bif (decide ((x1.length : Int) ≠ (x2.length : Int))) then
 some false
 else
 m_laws_eqCoreS_l1 fuel x1 x2 0)
def m_laws_eqCoreS_l1 (fuel : Nat) (x1 : (List Core)) (x2 : (List Core)) (g2 : Int) : Option Bool :=
 match fuel with
 | 0 => none
 | fuel + 1 =>
 (bif (decide (g2 < (x1.length : Int))) then
 (idx x1 g2).bind fun v6 =>
 (idx x2 g2).bind fun v7 =>
 (m_laws_eqCore fuel v6 v7).bind fun v8 =>
 (bif (!v8) then
 some false
 else
 m_laws_eqCoreS_l1 fuel x1 x2 (g2 + 1))
 else
 some true)
end
mutual
def m_impl_freeOf_f (fuel : Nat) (x1 : Core) (x2 : (List ByteArray)) : Option (List ByteArray) :=
 match fuel with
 | 0 => none
 | fuel + 1 =>
 (bif (decide (x1.kind = 2)) then
 (m_slices_Contains_string fuel x2 x1.name).bind fun v2 =>
 (bif (!v2) then
 chk (decide ((x2.length + [x1.name].length) * 16 ≤ 140737488355328)) <|
 m_impl_freeOf_f_l1 fuel x1 (x2 ++ [x1.name]) 0
 else
 m_impl_freeOf_f_l1 fuel x1 x2 0)
 else
 m_impl_freeOf_f_l1 fuel x1 x2 0)
def m_impl_freeOf_f_l1 (fuel : Nat) (x1 : Core) (g5 : (List ByteArray)) (g6 : Int) : Option (List ByteArray) :=
 match fuel with
 | 0 => none
 | fuel + 1 =>
 (bif (decide (g6 < (x1.kids.length : Int))) then
 (idx x1.kids g6).bind fun v10 =>
 (m_impl_freeOf_f fuel v10 g5).bind fun v11 =>
 m_impl_freeOf_f_l1 fuel x1 v11 (g6 + 1)
 else
 some g5)
end
def m_impl_freeOf_n (fuel : Nat) (x1 : Core) : Option (List ByteArray) :=
 (bif (decide (x1.kind = 2)) then
 (m_slices_Contains_string fuel ([] : List ByteArray) x1.name).bind fun v2 =>
 (bif (!v2) then
 chk (decide ([x1.name].length * 16 ≤ 140737488355328)) <|
 m_impl_freeOf_f_l1 fuel x1 [x1.name] 0
 else
 m_impl_freeOf_f_l1 fuel x1 ([] : List ByteArray) 0)
 else
 m_impl_freeOf_f_l1 fuel x1 ([] : List ByteArray) 0)
def m_impl_FreeOf (fuel : Nat) (x1 : Core) : Option (List ByteArray) :=
 (m_impl_freeOf_n fuel x1).bind fun v1 =>
 some v1
def m_laws_markIntS_l1 (fuel : Nat) (g1 : Int) (g2 : Int) (g3 : (List Int)) : Option (Int × (List Int)) :=
 match fuel with
 | 0 => none
 | fuel + 1 =>
 (bif (decide (g2 < (g3.length : Int))) then
 (idx g3 g2).bind fun v7 =>
 m_laws_markIntS_l1 fuel  (w64 (g1 + 1)) (g2 + 1) (g3.set g2.toNat g1)
 else
 some (g1, g3))
def m_laws_markIntS (fuel : Nat) (x1 : (List Int)) (x2 : Int) : Option (Int × (List Int)) :=
 m_laws_markIntS_l1 fuel  x2 0 x1
def m_laws_markText_l1 (fuel : Nat) (g2 : Int) (g3 : ByteArray) : Option ByteArray :=
 match fuel with
 | 0 => none
 | fuel + 1 =>
 (bif (decide (0 < g2)) then
 (bcat (strOf [(w8 (w64 (48 + (g2.tmod 10))))]) g3).bind fun v6 =>
 m_laws_markText_l1 fuel  (w64 (g2.tdiv 10)) v6
 else
 (bcat (⟨#[109]⟩ : ByteArray) g3).bind fun v7 =>
 some v7)
def m_laws_markText (fuel : Nat) (x1 : Int) : Option ByteArray :=
 (bif (decide (x1 ≤ 0)) then
 some (⟨#[109, 48]⟩ : ByteArray)
 else
 m_laws_markText_l1 fuel  x1 (⟨#[]⟩ : ByteArray))
mutual
def m_laws_markFormS (fuel : Nat) (x1 : (List Form)) (x2 : Int) : Option (Int × (List Form)) :=
 match fuel with
 | 0 => none
 | fuel + 1 =>
 m_laws_markFormS_l1 fuel  x2 0 x1
def m_laws_markFormS_l1 (fuel : Nat) (g1 : Int) (g2 : Int) (g3 : (List Form)) : Option (Int × (List Form)) :=
 match fuel with
 | 0 => none
 | fuel + 1 =>
 (bif (decide (g2 < (g3.length : Int))) then
 (idx g3 g2).bind fun v6 =>
 (m_laws_markText fuel (w64 (g1 + 1))).bind fun v7 =>
 (idx (g3.set g2.toNat (Form.mk g1 v6.name v6.n v6.scopes v6.kids)) g2).bind fun v8 =>
 (idx ((g3.set g2.toNat (Form.mk g1 v6.name v6.n v6.scopes v6.kids)).set g2.toNat (Form.mk v8.kind v7 v8.n v8.scopes v8.kids)) g2).bind fun v9 =>
 (idx (((g3.set g2.toNat (Form.mk g1 v6.name v6.n v6.scopes v6.kids)).set g2.toNat (Form.mk v8.kind v7 v8.n v8.scopes v8.kids)).set g2.toNat (Form.mk v9.kind v9.name (w64 ((w64 (g1 + 1)) + 1)) v9.scopes v9.kids)) g2).bind fun v10 =>
 (m_laws_markIntS fuel v10.scopes (w64 ((w64 ((w64 (g1 + 1)) + 1)) + 1))).bind fun v11 =>
 (idx ((((g3.set g2.toNat (Form.mk g1 v6.name v6.n v6.scopes v6.kids)).set g2.toNat (Form.mk v8.kind v7 v8.n v8.scopes v8.kids)).set g2.toNat (Form.mk v9.kind v9.name (w64 ((w64 (g1 + 1)) + 1)) v9.scopes v9.kids)).set g2.toNat (Form.mk v10.kind v10.name v10.n v11.2 v10.kids)) g2).bind fun v12 =>
 (m_laws_markFormS fuel v12.kids v11.1).bind fun v13 =>
 m_laws_markFormS_l1 fuel  v13.1 (w64 (g2 + 1)) (((((g3.set g2.toNat (Form.mk g1 v6.name v6.n v6.scopes v6.kids)).set g2.toNat (Form.mk v8.kind v7 v8.n v8.scopes v8.kids)).set g2.toNat (Form.mk v9.kind v9.name (w64 ((w64 (g1 + 1)) + 1)) v9.scopes v9.kids)).set g2.toNat (Form.mk v10.kind v10.name v10.n v11.2 v10.kids)).set g2.toNat (Form.mk v12.kind v12.name v12.n v12.scopes v13.2))
 else
 some (g1, g3))
end
def m_laws_markForm (fuel : Nat) (x1 : Form) (x2 : Int) : Option (Int × (List Int) × (List Form)) :=
 (m_laws_markIntS fuel x1.scopes x2).bind fun v1 =>
 (m_laws_markFormS fuel x1.kids v1.1).bind fun v2 =>
 some (v2.1, v1.2, v2.2)
def m_laws_heldIntS_l1 (fuel : Nat) (x1 : (List Int)) (g1 : Int) (g2 : Int) : Option Int :=
 match fuel with
 | 0 => none
 | fuel + 1 =>
 (bif (decide (g2 < (x1.length : Int))) then
 (idx x1 g2).bind fun v6 =>
 (bif (decide (v6 ≠ g1)) then
 some (-1)
 else
 m_laws_heldIntS_l1 fuel x1 (w64 (g1 + 1)) (g2 + 1))
 else
 some g1)
def m_laws_heldIntS (fuel : Nat) (x1 : (List Int)) (x2 : Int) : Option Int :=
 m_laws_heldIntS_l1 fuel x1 x2 0
mutual
def m_laws_heldFormS (fuel : Nat) (x1 : (List Form)) (x2 : Int) : Option Int :=
 match fuel with
 | 0 => none
 | fuel + 1 =>
 m_laws_heldFormS_l1 fuel x1 x2 0
def m_laws_heldFormS_l1 (fuel : Nat) (x1 : (List Form)) (g1 : Int) (g2 : Int) : Option Int :=
 match fuel with
 | 0 => none
 | fuel + 1 =>
 (bif (decide (g2 < (x1.length : Int))) then
 (idx x1 g2).bind fun v6 =>
 (bif (decide (v6.kind ≠ g1)) then
 some (-1)
 else
 (idx x1 g2).bind fun v8 =>
 (m_laws_markText fuel (w64 (g1 + 1))).bind fun v9 =>
 (bif (decide (v8.name ≠ v9)) then
 some (-1)
 else
 (idx x1 g2).bind fun v11 =>
 (bif (decide (v11.n ≠ (w64 ((w64 (g1 + 1)) + 1)))) then
 some (-1)
 else
 (idx x1 g2).bind fun v13 =>
 (m_laws_heldIntS fuel v13.scopes (w64 ((w64 ((w64 (g1 + 1)) + 1)) + 1))).bind fun v14 =>
 (bif (decide (v14 < 0)) then
 some (-1)
 else
 (idx x1 g2).bind fun v16 =>
 (m_laws_heldFormS fuel v16.kids v14).bind fun v17 =>
 (bif (decide (v17 < 0)) then
 some (-1)
 else
 m_laws_heldFormS_l1 fuel x1 v17 (g2 + 1))))))
 else
 some g1)
end
def m_laws_heldForm (fuel : Nat) (x1 : Form) (x2 : Int) : Option Int :=
 (m_laws_heldIntS fuel x1.scopes x2).bind fun v1 =>
 (bif (decide (v1 < 0)) then
 some (-1)
 else
 (m_laws_heldFormS fuel x1.kids v1).bind fun v3 =>
 (bif (decide (v3 < 0)) then
 some (-1)
 else
 some v3))
mutual
def m_laws_markCoreS (fuel : Nat) (x1 : (List Core)) (x2 : Int) : Option (Int × (List Core)) :=
 match fuel with
 | 0 => none
 | fuel + 1 =>
 m_laws_markCoreS_l1 fuel  x2 0 x1
def m_laws_markCoreS_l1 (fuel : Nat) (g1 : Int) (g2 : Int) (g3 : (List Core)) : Option (Int × (List Core)) :=
 match fuel with
 | 0 => none
 | fuel + 1 =>
 (bif (decide (g2 < (g3.length : Int))) then
 (idx g3 g2).bind fun v6 =>
 (idx (g3.set g2.toNat (Core.mk g1 v6.id v6.name v6.n v6.ids v6.data v6.kids)) g2).bind fun v7 =>
 (m_laws_markText fuel (w64 ((w64 (g1 + 1)) + 1))).bind fun v8 =>
 (idx ((g3.set g2.toNat (Core.mk g1 v6.id v6.name v6.n v6.ids v6.data v6.kids)).set g2.toNat (Core.mk v7.kind (w64 (g1 + 1)) v7.name v7.n v7.ids v7.data v7.kids)) g2).bind fun v9 =>
 (idx (((g3.set g2.toNat (Core.mk g1 v6.id v6.name v6.n v6.ids v6.data v6.kids)).set g2.toNat (Core.mk v7.kind (w64 (g1 + 1)) v7.name v7.n v7.ids v7.data v7.kids)).set g2.toNat (Core.mk v9.kind v9.id v8 v9.n v9.ids v9.data v9.kids)) g2).bind fun v10 =>
 (idx ((((g3.set g2.toNat (Core.mk g1 v6.id v6.name v6.n v6.ids v6.data v6.kids)).set g2.toNat (Core.mk v7.kind (w64 (g1 + 1)) v7.name v7.n v7.ids v7.data v7.kids)).set g2.toNat (Core.mk v9.kind v9.id v8 v9.n v9.ids v9.data v9.kids)).set g2.toNat (Core.mk v10.kind v10.id v10.name (w64 ((w64 ((w64 (g1 + 1)) + 1)) + 1)) v10.ids v10.data v10.kids)) g2).bind fun v11 =>
 (m_laws_markIntS fuel v11.ids (w64 ((w64 ((w64 ((w64 (g1 + 1)) + 1)) + 1)) + 1))).bind fun v12 =>
 (idx (((((g3.set g2.toNat (Core.mk g1 v6.id v6.name v6.n v6.ids v6.data v6.kids)).set g2.toNat (Core.mk v7.kind (w64 (g1 + 1)) v7.name v7.n v7.ids v7.data v7.kids)).set g2.toNat (Core.mk v9.kind v9.id v8 v9.n v9.ids v9.data v9.kids)).set g2.toNat (Core.mk v10.kind v10.id v10.name (w64 ((w64 ((w64 (g1 + 1)) + 1)) + 1)) v10.ids v10.data v10.kids)).set g2.toNat (Core.mk v11.kind v11.id v11.name v11.n v12.2 v11.data v11.kids)) g2).bind fun v13 =>
 (m_laws_markText fuel (w64 (v12.1 + 1))).bind fun v14 =>
 (idx ((((((g3.set g2.toNat (Core.mk g1 v6.id v6.name v6.n v6.ids v6.data v6.kids)).set g2.toNat (Core.mk v7.kind (w64 (g1 + 1)) v7.name v7.n v7.ids v7.data v7.kids)).set g2.toNat (Core.mk v9.kind v9.id v8 v9.n v9.ids v9.data v9.kids)).set g2.toNat (Core.mk v10.kind v10.id v10.name (w64 ((w64 ((w64 (g1 + 1)) + 1)) + 1)) v10.ids v10.data v10.kids)).set g2.toNat (Core.mk v11.kind v11.id v11.name v11.n v12.2 v11.data v11.kids)).set g2.toNat (Core.mk v13.kind v13.id v13.name v13.n v13.ids (Form.mk v12.1 v13.data.name v13.data.n v13.data.scopes v13.data.kids) v13.kids)) g2).bind fun v15 =>
 (idx (((((((g3.set g2.toNat (Core.mk g1 v6.id v6.name v6.n v6.ids v6.data v6.kids)).set g2.toNat (Core.mk v7.kind (w64 (g1 + 1)) v7.name v7.n v7.ids v7.data v7.kids)).set g2.toNat (Core.mk v9.kind v9.id v8 v9.n v9.ids v9.data v9.kids)).set g2.toNat (Core.mk v10.kind v10.id v10.name (w64 ((w64 ((w64 (g1 + 1)) + 1)) + 1)) v10.ids v10.data v10.kids)).set g2.toNat (Core.mk v11.kind v11.id v11.name v11.n v12.2 v11.data v11.kids)).set g2.toNat (Core.mk v13.kind v13.id v13.name v13.n v13.ids (Form.mk v12.1 v13.data.name v13.data.n v13.data.scopes v13.data.kids) v13.kids)).set g2.toNat (Core.mk v15.kind v15.id v15.name v15.n v15.ids (Form.mk v15.data.kind v14 v15.data.n v15.data.scopes v15.data.kids) v15.kids)) g2).bind fun v16 =>
 (idx ((((((((g3.set g2.toNat (Core.mk g1 v6.id v6.name v6.n v6.ids v6.data v6.kids)).set g2.toNat (Core.mk v7.kind (w64 (g1 + 1)) v7.name v7.n v7.ids v7.data v7.kids)).set g2.toNat (Core.mk v9.kind v9.id v8 v9.n v9.ids v9.data v9.kids)).set g2.toNat (Core.mk v10.kind v10.id v10.name (w64 ((w64 ((w64 (g1 + 1)) + 1)) + 1)) v10.ids v10.data v10.kids)).set g2.toNat (Core.mk v11.kind v11.id v11.name v11.n v12.2 v11.data v11.kids)).set g2.toNat (Core.mk v13.kind v13.id v13.name v13.n v13.ids (Form.mk v12.1 v13.data.name v13.data.n v13.data.scopes v13.data.kids) v13.kids)).set g2.toNat (Core.mk v15.kind v15.id v15.name v15.n v15.ids (Form.mk v15.data.kind v14 v15.data.n v15.data.scopes v15.data.kids) v15.kids)).set g2.toNat (Core.mk v16.kind v16.id v16.name v16.n v16.ids (Form.mk v16.data.kind v16.data.name (w64 ((w64 (v12.1 + 1)) + 1)) v16.data.scopes v16.data.kids) v16.kids)) g2).bind fun v17 =>
 (m_laws_markIntS fuel v17.data.scopes (w64 ((w64 ((w64 (v12.1 + 1)) + 1)) + 1))).bind fun v18 =>
 (idx (((((((((g3.set g2.toNat (Core.mk g1 v6.id v6.name v6.n v6.ids v6.data v6.kids)).set g2.toNat (Core.mk v7.kind (w64 (g1 + 1)) v7.name v7.n v7.ids v7.data v7.kids)).set g2.toNat (Core.mk v9.kind v9.id v8 v9.n v9.ids v9.data v9.kids)).set g2.toNat (Core.mk v10.kind v10.id v10.name (w64 ((w64 ((w64 (g1 + 1)) + 1)) + 1)) v10.ids v10.data v10.kids)).set g2.toNat (Core.mk v11.kind v11.id v11.name v11.n v12.2 v11.data v11.kids)).set g2.toNat (Core.mk v13.kind v13.id v13.name v13.n v13.ids (Form.mk v12.1 v13.data.name v13.data.n v13.data.scopes v13.data.kids) v13.kids)).set g2.toNat (Core.mk v15.kind v15.id v15.name v15.n v15.ids (Form.mk v15.data.kind v14 v15.data.n v15.data.scopes v15.data.kids) v15.kids)).set g2.toNat (Core.mk v16.kind v16.id v16.name v16.n v16.ids (Form.mk v16.data.kind v16.data.name (w64 ((w64 (v12.1 + 1)) + 1)) v16.data.scopes v16.data.kids) v16.kids)).set g2.toNat (Core.mk v17.kind v17.id v17.name v17.n v17.ids (Form.mk v17.data.kind v17.data.name v17.data.n v18.2 v17.data.kids) v17.kids)) g2).bind fun v19 =>
 (m_laws_markFormS fuel v19.data.kids v18.1).bind fun v20 =>
 (idx ((((((((((g3.set g2.toNat (Core.mk g1 v6.id v6.name v6.n v6.ids v6.data v6.kids)).set g2.toNat (Core.mk v7.kind (w64 (g1 + 1)) v7.name v7.n v7.ids v7.data v7.kids)).set g2.toNat (Core.mk v9.kind v9.id v8 v9.n v9.ids v9.data v9.kids)).set g2.toNat (Core.mk v10.kind v10.id v10.name (w64 ((w64 ((w64 (g1 + 1)) + 1)) + 1)) v10.ids v10.data v10.kids)).set g2.toNat (Core.mk v11.kind v11.id v11.name v11.n v12.2 v11.data v11.kids)).set g2.toNat (Core.mk v13.kind v13.id v13.name v13.n v13.ids (Form.mk v12.1 v13.data.name v13.data.n v13.data.scopes v13.data.kids) v13.kids)).set g2.toNat (Core.mk v15.kind v15.id v15.name v15.n v15.ids (Form.mk v15.data.kind v14 v15.data.n v15.data.scopes v15.data.kids) v15.kids)).set g2.toNat (Core.mk v16.kind v16.id v16.name v16.n v16.ids (Form.mk v16.data.kind v16.data.name (w64 ((w64 (v12.1 + 1)) + 1)) v16.data.scopes v16.data.kids) v16.kids)).set g2.toNat (Core.mk v17.kind v17.id v17.name v17.n v17.ids (Form.mk v17.data.kind v17.data.name v17.data.n v18.2 v17.data.kids) v17.kids)).set g2.toNat (Core.mk v19.kind v19.id v19.name v19.n v19.ids (Form.mk v19.data.kind v19.data.name v19.data.n v19.data.scopes v20.2) v19.kids)) g2).bind fun v21 =>
 (m_laws_markCoreS fuel v21.kids v20.1).bind fun v22 =>
 m_laws_markCoreS_l1 fuel  v22.1 (w64 (g2 + 1)) (((((((((((g3.set g2.toNat (Core.mk g1 v6.id v6.name v6.n v6.ids v6.data v6.kids)).set g2.toNat (Core.mk v7.kind (w64 (g1 + 1)) v7.name v7.n v7.ids v7.data v7.kids)).set g2.toNat (Core.mk v9.kind v9.id v8 v9.n v9.ids v9.data v9.kids)).set g2.toNat (Core.mk v10.kind v10.id v10.name (w64 ((w64 ((w64 (g1 + 1)) + 1)) + 1)) v10.ids v10.data v10.kids)).set g2.toNat (Core.mk v11.kind v11.id v11.name v11.n v12.2 v11.data v11.kids)).set g2.toNat (Core.mk v13.kind v13.id v13.name v13.n v13.ids (Form.mk v12.1 v13.data.name v13.data.n v13.data.scopes v13.data.kids) v13.kids)).set g2.toNat (Core.mk v15.kind v15.id v15.name v15.n v15.ids (Form.mk v15.data.kind v14 v15.data.n v15.data.scopes v15.data.kids) v15.kids)).set g2.toNat (Core.mk v16.kind v16.id v16.name v16.n v16.ids (Form.mk v16.data.kind v16.data.name (w64 ((w64 (v12.1 + 1)) + 1)) v16.data.scopes v16.data.kids) v16.kids)).set g2.toNat (Core.mk v17.kind v17.id v17.name v17.n v17.ids (Form.mk v17.data.kind v17.data.name v17.data.n v18.2 v17.data.kids) v17.kids)).set g2.toNat (Core.mk v19.kind v19.id v19.name v19.n v19.ids (Form.mk v19.data.kind v19.data.name v19.data.n v19.data.scopes v20.2) v19.kids)).set g2.toNat (Core.mk v21.kind v21.id v21.name v21.n v21.ids v21.data v22.2))
 else
 some (g1, g3))
end
def m_laws_markCore (fuel : Nat) (x1 : Core) (x2 : Int) : Option (Int × (List Int) × (List Int) × (List Form) × (List Core)) :=
 (m_laws_markIntS fuel x1.ids x2).bind fun v1 =>
 (m_laws_markForm fuel x1.data v1.1).bind fun v2 =>
 (m_laws_markCoreS fuel x1.kids v2.1).bind fun v3 =>
 some (v3.1, v1.2, v2.2.1, v2.2.2, v3.2)
mutual
def m_laws_heldCoreS (fuel : Nat) (x1 : (List Core)) (x2 : Int) : Option Int :=
 match fuel with
 | 0 => none
 | fuel + 1 =>
 m_laws_heldCoreS_l1 fuel x1 x2 0
def m_laws_heldCoreS_l1 (fuel : Nat) (x1 : (List Core)) (g1 : Int) (g2 : Int) : Option Int :=
 match fuel with
 | 0 => none
 | fuel + 1 =>
 (bif (decide (g2 < (x1.length : Int))) then
 (idx x1 g2).bind fun v6 =>
 (bif (decide (v6.kind ≠ g1)) then
 some (-1)
 else
 (idx x1 g2).bind fun v8 =>
 (bif (decide (v8.id ≠ (w64 (g1 + 1)))) then
 some (-1)
 else
 (idx x1 g2).bind fun v10 =>
 (m_laws_markText fuel (w64 ((w64 (g1 + 1)) + 1))).bind fun v11 =>
 (bif (decide (v10.name ≠ v11)) then
 some (-1)
 else
 (idx x1 g2).bind fun v13 =>
 (bif (decide (v13.n ≠ (w64 ((w64 ((w64 (g1 + 1)) + 1)) + 1)))) then
 some (-1)
 else
 (idx x1 g2).bind fun v15 =>
 (m_laws_heldIntS fuel v15.ids (w64 ((w64 ((w64 ((w64 (g1 + 1)) + 1)) + 1)) + 1))).bind fun v16 =>
 (bif (decide (v16 < 0)) then
 some (-1)
 else
 (idx x1 g2).bind fun v18 =>
 (bif (decide (v18.data.kind ≠ v16)) then
 some (-1)
 else
 (idx x1 g2).bind fun v20 =>
 (m_laws_markText fuel (w64 (v16 + 1))).bind fun v21 =>
 (bif (decide (v20.data.name ≠ v21)) then
 some (-1)
 else
 (idx x1 g2).bind fun v23 =>
 (bif (decide (v23.data.n ≠ (w64 ((w64 (v16 + 1)) + 1)))) then
 some (-1)
 else
 (idx x1 g2).bind fun v25 =>
 (m_laws_heldIntS fuel v25.data.scopes (w64 ((w64 ((w64 (v16 + 1)) + 1)) + 1))).bind fun v26 =>
 (bif (decide (v26 < 0)) then
 some (-1)
 else
 (idx x1 g2).bind fun v28 =>
 (m_laws_heldFormS fuel v28.data.kids v26).bind fun v29 =>
 (bif (decide (v29 < 0)) then
 some (-1)
 else
 (idx x1 g2).bind fun v31 =>
 (m_laws_heldCoreS fuel v31.kids v29).bind fun v32 =>
 (bif (decide (v32 < 0)) then
 some (-1)
 else
 m_laws_heldCoreS_l1 fuel x1 v32 (g2 + 1))))))))))))
 else
 some g1)
end
def m_laws_heldCore (fuel : Nat) (x1 : Core) (x2 : Int) : Option Int :=
 (m_laws_heldIntS fuel x1.ids x2).bind fun v1 =>
 (bif (decide (v1 < 0)) then
 some (-1)
 else
 (m_laws_heldForm fuel x1.data v1).bind fun v3 =>
 (bif (decide (v3 < 0)) then
 some (-1)
 else
 (m_laws_heldCoreS fuel x1.kids v3).bind fun v5 =>
 (bif (decide (v5 < 0)) then
 some (-1)
 else
 some v5)))
def m_spec_l1In_l1 (fuel : Nat) (x1 : (List ByteArray)) (x2 : ByteArray) (g1 : Int) : Option Bool :=
 match fuel with
 | 0 => none
 | fuel + 1 =>
 (bif (decide (g1 < (x1.length : Int))) then
 (idx x1 g1).bind fun v5 =>
 (bif (decide (v5 = x2)) then
 some true
 else
 m_spec_l1In_l1 fuel x1 x2 (g1 + 1))
 else
 some false)
def m_spec_l1In (fuel : Nat) (x1 : (List ByteArray)) (x2 : ByteArray) : Option Bool :=
 m_spec_l1In_l1 fuel x1 x2 0
mutual
def m_spec_l6Free_f (fuel : Nat) (x1 : (List ByteArray)) (x2 : Core) : Option (List ByteArray) :=
 match fuel with
 | 0 => none
 | fuel + 1 =>
 (bif (decide (x2.kind = 2)) then
 (m_spec_l1In fuel x1 x2.name).bind fun v2 =>
 (bif (!v2) then
 chk (decide ((x1.length + [x2.name].length) * 16 ≤ 140737488355328)) <|
 m_spec_l6Free_f_l1 fuel x2 (x1 ++ [x2.name]) 0
 else
 m_spec_l6Free_f_l1 fuel x2 x1 0)
 else
 m_spec_l6Free_f_l1 fuel x2 x1 0)
def m_spec_l6Free_f_l1 (fuel : Nat) (x2 : Core) (g5 : (List ByteArray)) (g6 : Int) : Option (List ByteArray) :=
 match fuel with
 | 0 => none
 | fuel + 1 =>
 (bif (decide (g6 < (x2.kids.length : Int))) then
 (idx x2.kids g6).bind fun v10 =>
 (m_spec_l6Free_f fuel g5 v10).bind fun v11 =>
 m_spec_l6Free_f_l1 fuel x2 v11 (g6 + 1)
 else
 some g5)
end
def m_spec_l6Free (fuel : Nat) (x1 : (List ByteArray)) (x2 : Core) : Option (List ByteArray) :=
 (bif (decide (x2.kind = 2)) then
 (m_spec_l1In fuel x1 x2.name).bind fun v2 =>
 (bif (!v2) then
 chk (decide ((x1.length + [x2.name].length) * 16 ≤ 140737488355328)) <|
 m_spec_l6Free_f_l1 fuel x2 (x1 ++ [x2.name]) 0
 else
 m_spec_l6Free_f_l1 fuel x2 x1 0)
 else
 m_spec_l6Free_f_l1 fuel x2 x1 0)
def m_spec_FreeOf (fuel : Nat) (x1 : Core) : Option (List ByteArray) :=
 (m_spec_l6Free fuel ([] : List ByteArray) x1).bind fun v1 =>
 some v1
mutual
def m_impl_freeOf_d (fuel : Nat) (x1 : Core) (x2 : (List ByteArray)) : Option (List ByteArray) :=
 match fuel with
 | 0 => none
 | fuel + 1 =>
 (bif (decide (x1.kind = 2)) then
 (m_slices_Contains_string fuel x2 x1.name).bind fun v2 =>
 (bif (!v2) then
 chk (decide ((x2.length + [x1.name].length) * 16 ≤ 140737488355328)) <|
 m_impl_freeOf_d_l1 fuel x1 (x2 ++ [x1.name]) 0
 else
 m_impl_freeOf_d_l1 fuel x1 x2 0)
 else
 m_impl_freeOf_d_l1 fuel x1 x2 0)
def m_impl_freeOf_d_l1 (fuel : Nat) (x1 : Core) (g5 : (List ByteArray)) (g6 : Int) : Option (List ByteArray) :=
 match fuel with
 | 0 => none
 | fuel + 1 =>
 (bif (decide (g6 < (x1.kids.length : Int))) then
 (idx x1.kids g6).bind fun v10 =>
 (m_impl_freeOf_d fuel v10 g5).bind fun v11 =>
 m_impl_freeOf_d_l1 fuel x1 v11 (g6 + 1)
 else
 some g5)
end
def m_impl_freeOf_n_d (fuel : Nat) (x1 : Core) : Option (List ByteArray) :=
 (bif (decide (x1.kind = 2)) then
 (m_slices_Contains_string fuel ([] : List ByteArray) x1.name).bind fun v2 =>
 (bif (!v2) then
 chk (decide ([x1.name].length * 16 ≤ 140737488355328)) <|
 m_impl_freeOf_d_l1 fuel x1 [x1.name] 0
 else
 m_impl_freeOf_d_l1 fuel x1 ([] : List ByteArray) 0)
 else
 m_impl_freeOf_d_l1 fuel x1 ([] : List ByteArray) 0)
def m_impl_FreeOf_d (fuel : Nat) (x1 : Core) : Option (List ByteArray) :=
 (m_impl_freeOf_n_d fuel x1).bind fun v1 =>
 some v1
def m_laws_eqStringS_l1 (fuel : Nat) (x1 : (List ByteArray)) (x2 : (List ByteArray)) (g2 : Int) : Option Bool :=
 match fuel with
 | 0 => none
 | fuel + 1 =>
 (bif (decide (g2 < (x1.length : Int))) then
 (idx x1 g2).bind fun v6 =>
 (idx x2 g2).bind fun v7 =>
 (bif (decide (v6 ≠ v7)) then
 some false
 else
 m_laws_eqStringS_l1 fuel x1 x2 (g2 + 1))
 else
 some true)
def m_laws_eqStringS (fuel : Nat) (x1 : (List ByteArray)) (x2 : (List ByteArray)) : Option Bool :=
 (bif (decide ((x1.length : Int) ≠ (x2.length : Int))) then
 some false
 else
 m_laws_eqStringS_l1 fuel x1 x2 0)
def m_laws_markStringS_l1 (fuel : Nat) (g1 : Int) (g2 : Int) (g3 : (List ByteArray)) : Option (Int × (List ByteArray)) :=
 match fuel with
 | 0 => none
 | fuel + 1 =>
 (bif (decide (g2 < (g3.length : Int))) then
 (m_laws_markText fuel g1).bind fun v7 =>
 (idx g3 g2).bind fun v8 =>
 m_laws_markStringS_l1 fuel  (w64 (g1 + 1)) (g2 + 1) (g3.set g2.toNat v7)
 else
 some (g1, g3))
def m_laws_markStringS (fuel : Nat) (x1 : (List ByteArray)) (x2 : Int) : Option (Int × (List ByteArray)) :=
 m_laws_markStringS_l1 fuel  x2 0 x1
def m_laws_heldStringS_l1 (fuel : Nat) (x1 : (List ByteArray)) (g1 : Int) (g2 : Int) : Option Int :=
 match fuel with
 | 0 => none
 | fuel + 1 =>
 (bif (decide (g2 < (x1.length : Int))) then
 (idx x1 g2).bind fun v6 =>
 (m_laws_markText fuel g1).bind fun v7 =>
 (bif (decide (v6 ≠ v7)) then
 some (-1)
 else
 m_laws_heldStringS_l1 fuel x1 (w64 (g1 + 1)) (g2 + 1))
 else
 some g1)
def m_laws_heldStringS (fuel : Nat) (x1 : (List ByteArray)) (x2 : Int) : Option Int :=
 m_laws_heldStringS_l1 fuel x1 x2 0
def m_laws_FnExactFreeOf_j1 (fuel : Nat) (x1 : Core) (v4 : (List ByteArray)) (v6 : (List ByteArray)) (g15 : Bool) : Option Bool :=
 match fuel with
 | 0 => none
 | fuel + 1 =>
 (bif g15 then
 some false
 else
 (m_laws_markStringS fuel v6 1).bind fun v18 =>
 (m_laws_heldStringS fuel v18.2 1).bind fun v19 =>
 (bif (decide (v19 < 0)) then
 some false
 else
 (bif (decide (v19 ≠ v18.1)) then
 some false
 else
 (m_laws_toCore fuel x1).bind fun v22 =>
 (m_impl_FreeOf fuel v22).bind fun v23 =>
 (m_laws_eqStringS fuel v23 v4).bind fun v24 =>
 (bif (!v24) then
 some false
 else
 (m_laws_heldStringS fuel v18.2 1).bind fun v26 =>
 (bif (decide (v26 < 0)) then
 some false
 else
 (bif (decide (v26 ≠ v18.1)) then
 some false
 else
 some true))))))
def m_laws_FnExactFreeOf (fuel : Nat) (x1 : Core) : Option Bool :=
 (m_laws_szCore fuel x1 1048576).bind fun v1 =>
 (bif (decide (v1 < 0)) then
 some true
 else
 (m_laws_toCore fuel x1).bind fun v3 =>
 (m_spec_FreeOf fuel v3).bind fun v4 =>
 (m_laws_toCore fuel x1).bind fun v5 =>
 (m_impl_FreeOf_d fuel v5).bind fun v6 =>
 (m_laws_eqStringS fuel v6 v4).bind fun v7 =>
 (bif (!v7) then
 some false
 else
 (m_laws_toCore fuel x1).bind fun v9 =>
 (m_laws_eqCore fuel v5 v9).bind fun v10 =>
 (bif (!v10) then
 some false
 else
 (m_laws_markCore fuel v5 1).bind fun v12 =>
 (bif (decide (v12.1 < 0)) then
 m_laws_FnExactFreeOf_j1 fuel x1 v4 v6 true
 else
 (m_laws_eqStringS fuel v6 v4).bind fun v14 =>
 m_laws_FnExactFreeOf_j1 fuel x1 v4 v6 (!v14)))))
end Go.Abs
