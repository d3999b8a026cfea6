/- A part of the proof: what the functions that the law calls answer, as pure values. -/
import Derived.Test.YtbkdbbfgdjcfgaaK59f2f0d3f59e
import Derived.Test.YtbkdbbfgdjcfgaaK6acd1b830261
set_option linter.unusedSimpArgs false
set_option linter.unusedVariables false
set_option maxHeartbeats 4000000
namespace Go.Abs
mutual
def m_spec_l6Number (fuel : Nat) (x1 : Core) (x2 : (List Int)) (x3 : (List Int)) (x4 : Int) : Option (Core × Int) :=
 match fuel with
 | 0 => none
 | fuel + 1 =>
 (m_spec_l1Copy fuel x1.data).bind fun v1 =>
 (bif (decide (x1.kind = 1)) then
 (m_spec_l6Last fuel x2 x1.id).bind fun v3 =>
 (idx x3 (w64 ((w64 ((x3.length : Int) - 1)) - v3))).bind fun v4 =>
 m_spec_l6Number_j1 fuel x1 x2 x3 x4 v1 v4
 else
 m_spec_l6Number_j1 fuel x1 x2 x3 x4 v1 0)
def m_spec_l6Number_l3 (fuel : Nat) (x1 : Core) (v1 : Form) (g5 : Int) (g7 : (List Int)) (g8 : (List Int)) (g9 : Int) (g10 : Int) (g11 : (List Int)) : Option (Core × Int) :=
 match fuel with
 | 0 => none
 | fuel + 1 =>
 (bif (decide (g10 < (x1.ids.length : Int))) then
 chk (decide ((g11.length + [(w64 (g9 + 1))].length) * 8 ≤ 140737488355328)) <|
 chk (decide ((([] : List Int).length + g7.length) * 8 ≤ 140737488355328)) <|
 (idx x1.ids g10).bind fun v17 =>
 chk (decide (((([] : List Int) ++ g7).length + [v17].length) * 8 ≤ 140737488355328)) <|
 chk (decide ((([] : List Int).length + g8.length) * 8 ≤ 140737488355328)) <|
 chk (decide (((([] : List Int) ++ g8).length + [(w64 (g9 + 1))].length) * 8 ≤ 140737488355328)) <|
 m_spec_l6Number_l3 fuel x1 v1 g5 ((([] : List Int) ++ g7) ++ [v17]) ((([] : List Int) ++ g8) ++ [(w64 (g9 + 1))]) (w64 (g9 + 1)) (g10 + 1) (g11 ++ [(w64 (g9 + 1))])
 else
 m_spec_l6Number_j2 fuel x1 v1 g5 g7 g8 g9 g11)
def m_spec_l6Number_l4 (fuel : Nat) (x1 : Core) (v1 : Form) (g5 : Int) (g21 : (List Int)) (g22 : (List Int)) (g24 : (List Int)) (g26 : Int) (g27 : Int) (g28 : (List Core)) : Option (Core × Int) :=
 match fuel with
 | 0 => none
 | fuel + 1 =>
 (bif (decide (g27 < (x1.kids.length : Int))) then
 (idx x1.kids g27).bind fun v32 =>
 (m_spec_l6Number fuel v32 g21 g22 g26).bind fun v33 =>
 chk (decide ((g28.length + [v33.1].length) * 168 ≤ 140737488355328)) <|
 m_spec_l6Number_l4 fuel x1 v1 g5 g21 g22 g24 v33.2 (g27 + 1) (g28 ++ [v33.1])
 else
 some ((Core.mk x1.kind g5 x1.name x1.n g24 v1 g28), g26))
def m_spec_l6Number_j2 (fuel : Nat) (x1 : Core) (v1 : Form) (g5 : Int) (g21 : (List Int)) (g22 : (List Int)) (g23 : Int) (g24 : (List Int)) : Option (Core × Int) :=
 match fuel with
 | 0 => none
 | fuel + 1 =>
 m_spec_l6Number_l4 fuel x1 v1 g5 g21 g22 g24 g23 0 ([] : List Core)
def m_spec_l6Number_j1 (fuel : Nat) (x1 : Core) (x2 : (List Int)) (x3 : (List Int)) (x4 : Int) (v1 : Form) (g5 : Int) : Option (Core × Int) :=
 match fuel with
 | 0 => none
 | fuel + 1 =>
 m_spec_l6Number_l3 fuel x1 v1 g5 x2 x3 x4 0 ([] : List Int)
end
def m_spec_NumberCore (fuel : Nat) (x1 : Core) : Option (Core × Bool) :=
 (m_spec_CoreValid fuel x1).bind fun v1 =>
 (bif (!v1) then
 some ((Core.mk 0 0 (⟨#[]⟩ : ByteArray) 0 ([] : List Int) (Form.mk 0 (⟨#[]⟩ : ByteArray) 0 ([] : List Int) ([] : List Form)) ([] : List Core)), false)
 else
 (m_spec_l6Number fuel x1 ([] : List Int) ([] : List Int) 0).bind fun v3 =>
 (bif (decide (999 < v3.2)) then
 some ((Core.mk 0 0 (⟨#[]⟩ : ByteArray) 0 ([] : List Int) (Form.mk 0 (⟨#[]⟩ : ByteArray) 0 ([] : List Int) ([] : List Form)) ([] : List Core)), false)
 else
 some (v3.1, true)))
mutual
def m_impl_renumber (fuel : Nat) (x1 : Core) (x2 : (Int → Option Int)) (o1 : Int) : Option (Core × Int) :=
 match fuel with
 | 0 => none
 | fuel + 1 =>
 (m_impl_copyForm fuel x1.data).bind fun v1 =>
 (bif (decide (x1.kind = 1)) then
 m_impl_renumber_j1 fuel x1 x2 o1 v1 (mapGet x2 x1.id)
 else
 m_impl_renumber_j1 fuel x1 x2 o1 v1 x1.id)
def m_impl_renumber_l3 (fuel : Nat) (x1 : Core) (v1 : Form) (g3 : Int) (g6 : Int) (g7 : Int) (g8 : (List Int)) (g9 : (Int → Option Int)) : Option (Core × Int) :=
 match fuel with
 | 0 => none
 | fuel + 1 =>
 (bif (decide (g6 < (x1.ids.length : Int))) then
 (idx x1.ids g6).bind fun v13 =>
 chk (decide ((g8.length + [(w64 (g7 + 1))].length) * 8 ≤ 140737488355328)) <|
 m_impl_renumber_l3 fuel x1 v1 g3 (g6 + 1) (w64 (g7 + 1)) (g8 ++ [(w64 (g7 + 1))]) (mapSet g9 v13 (w64 (g7 + 1)))
 else
 m_impl_renumber_j2 fuel x1 v1 g3 g7 g9 g8)
def m_impl_renumber_l4 (fuel : Nat) (x1 : Core) (v1 : Form) (g3 : Int) (g16 : (Int → Option Int)) (g17 : (List Int)) (g19 : Int) (g20 : Int) (g21 : (List Core)) : Option (Core × Int) :=
 match fuel with
 | 0 => none
 | fuel + 1 =>
 (bif (decide (g19 < (x1.kids.length : Int))) then
 (idx x1.kids g19).bind fun v25 =>
 (m_impl_renumber fuel v25 g16 g20).bind fun v26 =>
 chk (decide ((g21.length + [v26.1].length) * 168 ≤ 140737488355328)) <|
 m_impl_renumber_l4 fuel x1 v1 g3 g16 g17 (g19 + 1) v26.2 (g21 ++ [v26.1])
 else
 some ((Core.mk x1.kind g3 x1.name x1.n g17 v1 g21), g20))
def m_impl_renumber_j2 (fuel : Nat) (x1 : Core) (v1 : Form) (g3 : Int) (g15 : Int) (g16 : (Int → Option Int)) (g17 : (List Int)) : Option (Core × Int) :=
 match fuel with
 | 0 => none
 | fuel + 1 =>
 m_impl_renumber_l4 fuel x1 v1 g3 g16 g17 0 g15 ([] : List Core)
def m_impl_renumber_j1 (fuel : Nat) (x1 : Core) (x2 : (Int → Option Int)) (o1 : Int) (v1 : Form) (g3 : Int) : Option (Core × Int) :=
 match fuel with
 | 0 => none
 | fuel + 1 =>
 m_impl_renumber_l3 fuel x1 v1 g3 0 o1 ([] : List Int) x2
end
def m_impl_renumber_n_j1 (fuel : Nat) (x1 : Core) (o1 : Int) (v1 : Form) (g3 : Int) : Option (Core × Int) :=
 match fuel with
 | 0 => none
 | fuel + 1 =>
 m_impl_renumber_l3 fuel x1 v1 g3 0 o1 ([] : List Int) map0
def m_impl_renumber_n (fuel : Nat) (x1 : Core) (o1 : Int) : Option (Core × Int) :=
 (m_impl_copyForm fuel x1.data).bind fun v1 =>
 (bif (decide (x1.kind = 1)) then
 m_impl_renumber_n_j1 fuel x1 o1 v1 0
 else
 m_impl_renumber_n_j1 fuel x1 o1 v1 x1.id)
def m_impl_NumberCore (fuel : Nat) (x1 : Core) : Option (Core × Bool) :=
 (m_impl_CoreValid fuel x1).bind fun v1 =>
 (bif (!v1) then
 some ((Core.mk 0 0 (⟨#[]⟩ : ByteArray) 0 ([] : List Int) (Form.mk 0 (⟨#[]⟩ : ByteArray) 0 ([] : List Int) ([] : List Form)) ([] : List Core)), false)
 else
 (m_impl_renumber_n fuel x1 0).bind fun v3 =>
 (bif (decide (999 < v3.2)) then
 some ((Core.mk 0 0 (⟨#[]⟩ : ByteArray) 0 ([] : List Int) (Form.mk 0 (⟨#[]⟩ : ByteArray) 0 ([] : List Int) ([] : List Form)) ([] : List Core)), false)
 else
 some (v3.1, true)))
def m_laws_markIntS_l1 (fuel : Nat) (g1 : Int) (g2 : Int) (g3 : (List Int)) : Option (Int × (List Int)) :=
 match fuel with
 | 0 => none
 | fuel + 1 =>
 (bif (decide (g2 < (g3.length : Int))) then
 (idx g3 g2).bind fun v7 =>
 m_laws_markIntS_l1 fuel  (w64 (g1 + 1)) (g2 + 1) (g3.set g2.toNat g1)
 else
 some (g1, g3))
def m_laws_markIntS (fuel : Nat) (x1 : (List Int)) (x2 : Int) : Option (Int × (List Int)) :=
 m_laws_markIntS_l1 fuel  x2 0 x1
def m_laws_markText_l1 (fuel : Nat) (g2 : Int) (g3 : ByteArray) : Option ByteArray :=
 match fuel with
 | 0 => none
 | fuel + 1 =>
 (bif (decide (0 < g2)) then
 (bcat (strOf [(w8 (w64 (48 + (g2.tmod 10))))]) g3).bind fun v6 =>
 m_laws_markText_l1 fuel  (w64 (g2.tdiv 10)) v6
 else
 (bcat (⟨#[109]⟩ : ByteArray) g3).bind fun v7 =>
 some v7)
def m_laws_markText (fuel : Nat) (x1 : Int) : Option ByteArray :=
 (bif (decide (x1 ≤ 0)) then
 some (⟨#[109, 48]⟩ : ByteArray)
 else
 m_laws_markText_l1 fuel  x1 (⟨#[]⟩ : ByteArray))
mutual
def m_laws_markFormS (fuel : Nat) (x1 : (List Form)) (x2 : Int) : Option (Int × (List Form)) :=
 match fuel with
 | 0 => none
 | fuel + 1 =>
 m_laws_markFormS_l1 fuel  x2 0 x1
def m_laws_markFormS_l1 (fuel : Nat) (g1 : Int) (g2 : Int) (g3 : (List Form)) : Option (Int × (List Form)) :=
 match fuel with
 | 0 => none
 | fuel + 1 =>
 (bif (decide (g2 < (g3.length : Int))) then
 (idx g3 g2).bind fun v6 =>
 (m_laws_markText fuel (w64 (g1 + 1))).bind fun v7 =>
 (idx (g3.set g2.toNat (Form.mk g1 v6.name v6.n v6.scopes v6.kids)) g2).bind fun v8 =>
 (idx ((g3.set g2.toNat (Form.mk g1 v6.name v6.n v6.scopes v6.kids)).set g2.toNat (Form.mk v8.kind v7 v8.n v8.scopes v8.kids)) g2).bind fun v9 =>
 (idx (((g3.set g2.toNat (Form.mk g1 v6.name v6.n v6.scopes v6.kids)).set g2.toNat (Form.mk v8.kind v7 v8.n v8.scopes v8.kids)).set g2.toNat (Form.mk v9.kind v9.name (w64 ((w64 (g1 + 1)) + 1)) v9.scopes v9.kids)) g2).bind fun v10 =>
 (m_laws_markIntS fuel v10.scopes (w64 ((w64 ((w64 (g1 + 1)) + 1)) + 1))).bind fun v11 =>
 (idx ((((g3.set g2.toNat (Form.mk g1 v6.name v6.n v6.scopes v6.kids)).set g2.toNat (Form.mk v8.kind v7 v8.n v8.scopes v8.kids)).set g2.toNat (Form.mk v9.kind v9.name (w64 ((w64 (g1 + 1)) + 1)) v9.scopes v9.kids)).set g2.toNat (Form.mk v10.kind v10.name v10.n v11.2 v10.kids)) g2).bind fun v12 =>
 (m_laws_markFormS fuel v12.kids v11.1).bind fun v13 =>
 m_laws_markFormS_l1 fuel  v13.1 (w64 (g2 + 1)) (((((g3.set g2.toNat (Form.mk g1 v6.name v6.n v6.scopes v6.kids)).set g2.toNat (Form.mk v8.kind v7 v8.n v8.scopes v8.kids)).set g2.toNat (Form.mk v9.kind v9.name (w64 ((w64 (g1 + 1)) + 1)) v9.scopes v9.kids)).set g2.toNat (Form.mk v10.kind v10.name v10.n v11.2 v10.kids)).set g2.toNat (Form.mk v12.kind v12.name v12.n v12.scopes v13.2))
 else
 some (g1, g3))
end
def m_laws_markForm (fuel : Nat) (x1 : Form) (x2 : Int) : Option (Int × (List Int) × (List Form)) :=
 (m_laws_markIntS fuel x1.scopes x2).bind fun v1 =>
 (m_laws_markFormS fuel x1.kids v1.1).bind fun v2 =>
 some (v2.1, v1.2, v2.2)
def m_laws_heldIntS_l1 (fuel : Nat) (x1 : (List Int)) (g1 : Int) (g2 : Int) : Option Int :=
 match fuel with
 | 0 => none
 | fuel + 1 =>
 (bif (decide (g2 < (x1.length : Int))) then
 (idx x1 g2).bind fun v6 =>
 (bif (decide (v6 ≠ g1)) then
 some (-1)
 else
 m_laws_heldIntS_l1 fuel x1 (w64 (g1 + 1)) (g2 + 1))
 else
 some g1)
def m_laws_heldIntS (fuel : Nat) (x1 : (List Int)) (x2 : Int) : Option Int :=
 m_laws_heldIntS_l1 fuel x1 x2 0
mutual
def m_laws_heldFormS (fuel : Nat) (x1 : (List Form)) (x2 : Int) : Option Int :=
 match fuel with
 | 0 => none
 | fuel + 1 =>
 m_laws_heldFormS_l1 fuel x1 x2 0
def m_laws_heldFormS_l1 (fuel : Nat) (x1 : (List Form)) (g1 : Int) (g2 : Int) : Option Int :=
 match fuel with
 | 0 => none
 | fuel + 1 =>
 (bif (decide (g2 < (x1.length : Int))) then
 (idx x1 g2).bind fun v6 =>
 (bif (decide (v6.kind ≠ g1)) then
 some (-1)
 else
 (idx x1 g2).bind fun v8 =>
 (m_laws_markText fuel (w64 (g1 + 1))).bind fun v9 =>
 (bif (decide (v8.name ≠ v9)) then
 some (-1)
 else
 (idx x1 g2).bind fun v11 =>
 (bif (decide (v11.n ≠ (w64 ((w64 (g1 + 1)) + 1)))) then
 some (-1)
 else
 (idx x1 g2).bind fun v13 =>
 (m_laws_heldIntS fuel v13.scopes (w64 ((w64 ((w64 (g1 + 1)) + 1)) + 1))).bind fun v14 =>
 (bif (decide (v14 < 0)) then
 some (-1)
 else
 (idx x1 g2).bind fun v16 =>
 (m_laws_heldFormS fuel v16.kids v14).bind fun v17 =>
 (bif (decide (v17 < 0)) then
 some (-1)
 else
 m_laws_heldFormS_l1 fuel x1 v17 (g2 + 1))))))
 else
 some g1)
end
def m_laws_heldForm (fuel : Nat) (x1 : Form) (x2 : Int) : Option Int :=
 (m_laws_heldIntS fuel x1.scopes x2).bind fun v1 =>
 (bif (decide (v1 < 0)) then
 some (-1)
 else
 (m_laws_heldFormS fuel x1.kids v1).bind fun v3 =>
 (bif (decide (v3 < 0)) then
 some (-1)
 else
 some v3))
mutual
def m_laws_markCoreS (fuel : Nat) (x1 : (List Core)) (x2 : Int) : Option (Int × (List Core)) :=
 match fuel with
 | 0 => none
 | fuel + 1 =>
 m_laws_markCoreS_l1 fuel  x2 0 x1
def m_laws_markCoreS_l1 (fuel : Nat) (g1 : Int) (g2 : Int) (g3 : (List Core)) : Option (Int × (List Core)) :=
 match fuel with
 | 0 => none
 | fuel + 1 =>
 (bif (decide (g2 < (g3.length : Int))) then
 (idx g3 g2).bind fun v6 =>
 (idx (g3.set g2.toNat (Core.mk g1 v6.id v6.name v6.n v6.ids v6.data v6.kids)) g2).bind fun v7 =>
 (m_laws_markText fuel (w64 ((w64 (g1 + 1)) + 1))).bind fun v8 =>
 (idx ((g3.set g2.toNat (Core.mk g1 v6.id v6.name v6.n v6.ids v6.data v6.kids)).set g2.toNat (Core.mk v7.kind (w64 (g1 + 1)) v7.name v7.n v7.ids v7.data v7.kids)) g2).bind fun v9 =>
 (idx (((g3.set g2.toNat (Core.mk g1 v6.id v6.name v6.n v6.ids v6.data v6.kids)).set g2.toNat (Core.mk v7.kind (w64 (g1 + 1)) v7.name v7.n v7.ids v7.data v7.kids)).set g2.toNat (Core.mk v9.kind v9.id v8 v9.n v9.ids v9.data v9.kids)) g2).bind fun v10 =>
 (idx ((((g3.set g2.toNat (Core.mk g1 v6.id v6.name v6.n v6.ids v6.data v6.kids)).set g2.toNat (Core.mk v7.kind (w64 (g1 + 1)) v7.name v7.n v7.ids v7.data v7.kids)).set g2.toNat (Core.mk v9.kind v9.id v8 v9.n v9.ids v9.data v9.kids)).set g2.toNat (Core.mk v10.kind v10.id v10.name (w64 ((w64 ((w64 (g1 + 1)) + 1)) + 1)) v10.ids v10.data v10.kids)) g2).bind fun v11 =>
 (m_laws_markIntS fuel v11.ids (w64 ((w64 ((w64 ((w64 (g1 + 1)) + 1)) + 1)) + 1))).bind fun v12 =>
 (idx (((((g3.set g2.toNat (Core.mk g1 v6.id v6.name v6.n v6.ids v6.data v6.kids)).set g2.toNat (Core.mk v7.kind (w64 (g1 + 1)) v7.name v7.n v7.ids v7.data v7.kids)).set g2.toNat (Core.mk v9.kind v9.id v8 v9.n v9.ids v9.data v9.kids)).set g2.toNat (Core.mk v10.kind v10.id v10.name (w64 ((w64 ((w64 (g1 + 1)) + 1)) + 1)) v10.ids v10.data v10.kids)).set g2.toNat (Core.mk v11.kind v11.id v11.name v11.n v12.2 v11.data v11.kids)) g2).bind fun v13 =>
 (m_laws_markText fuel (w64 (v12.1 + 1))).bind fun v14 =>
 (idx ((((((g3.set g2.toNat (Core.mk g1 v6.id v6.name v6.n v6.ids v6.data v6.kids)).set g2.toNat (Core.mk v7.kind (w64 (g1 + 1)) v7.name v7.n v7.ids v7.data v7.kids)).set g2.toNat (Core.mk v9.kind v9.id v8 v9.n v9.ids v9.data v9.kids)).set g2.toNat (Core.mk v10.kind v10.id v10.name (w64 ((w64 ((w64 (g1 + 1)) + 1)) + 1)) v10.ids v10.data v10.kids)).set g2.toNat (Core.mk v11.kind v11.id v11.name v11.n v12.2 v11.data v11.kids)).set g2.toNat (Core.mk v13.kind v13.id v13.name v13.n v13.ids (Form.mk v12.1 v13.data.name v13.data.n v13.data.scopes v13.data.kids) v13.kids)) g2).bind fun v15 =>
 (idx (((((((g3.set g2.toNat (Core.mk g1 v6.id v6.name v6.n v6.ids v6.data v6.kids)).set g2.toNat (Core.mk v7.kind (w64 (g1 + 1)) v7.name v7.n v7.ids v7.data v7.kids)).set g2.toNat (Core.mk v9.kind v9.id v8 v9.n v9.ids v9.data v9.kids)).set g2.toNat (Core.mk v10.kind v10.id v10.name (w64 ((w64 ((w64 (g1 + 1)) + 1)) + 1)) v10.ids v10.data v10.kids)).set g2.toNat (Core.mk v11.kind v11.id v11.name v11.n v12.2 v11.data v11.kids)).set g2.toNat (Core.mk v13.kind v13.id v13.name v13.n v13.ids (Form.mk v12.1 v13.data.name v13.data.n v13.data.scopes v13.data.kids) v13.kids)).set g2.toNat (Core.mk v15.kind v15.id v15.name v15.n v15.ids (Form.mk v15.data.kind v14 v15.data.n v15.data.scopes v15.data.kids) v15.kids)) g2).bind fun v16 =>
 (idx ((((((((g3.set g2.toNat (Core.mk g1 v6.id v6.name v6.n v6.ids v6.data v6.kids)).set g2.toNat (Core.mk v7.kind (w64 (g1 + 1)) v7.name v7.n v7.ids v7.data v7.kids)).set g2.toNat (Core.mk v9.kind v9.id v8 v9.n v9.ids v9.data v9.kids)).set g2.toNat (Core.mk v10.kind v10.id v10.name (w64 ((w64 ((w64 (g1 + 1)) + 1)) + 1)) v10.ids v10.data v10.kids)).set g2.toNat (Core.mk v11.kind v11.id v11.name v11.n v12.2 v11.data v11.kids)).set g2.toNat (Core.mk v13.kind v13.id v13.name v13.n v13.ids (Form.mk v12.1 v13.data.name v13.data.n v13.data.scopes v13.data.kids) v13.kids)).set g2.toNat (Core.mk v15.kind v15.id v15.name v15.n v15.ids (Form.mk v15.data.kind v14 v15.data.n v15.data.scopes v15.data.kids) v15.kids)).set g2.toNat (Core.mk v16.kind v16.id v16.name v16.n v16.ids (Form.mk v16.data.kind v16.data.name (w64 ((w64 (v12.1 + 1)) + 1)) v16.data.scopes v16.data.kids) v16.kids)) g2).bind fun v17 =>
 (m_laws_markIntS fuel v17.data.scopes (w64 ((w64 ((w64 (v12.1 + 1)) + 1)) + 1))).bind fun v18 =>
 (idx (((((((((g3.set g2.toNat (Core.mk g1 v6.id v6.name v6.n v6.ids v6.data v6.kids)).set g2.toNat (Core.mk v7.kind (w64 (g1 + 1)) v7.name v7.n v7.ids v7.data v7.kids)).set g2.toNat (Core.mk v9.kind v9.id v8 v9.n v9.ids v9.data v9.kids)).set g2.toNat (Core.mk v10.kind v10.id v10.name (w64 ((w64 ((w64 (g1 + 1)) + 1)) + 1)) v10.ids v10.data v10.kids)).set g2.toNat (Core.mk v11.kind v11.id v11.name v11.n v12.2 v11.data v11.kids)).set g2.toNat (Core.mk v13.kind v13.id v13.name v13.n v13.ids (Form.mk v12.1 v13.data.name v13.data.n v13.data.scopes v13.data.kids) v13.kids)).set g2.toNat (Core.mk v15.kind v15.id v15.name v15.n v15.ids (Form.mk v15.data.kind v14 v15.data.n v15.data.scopes v15.data.kids) v15.kids)).set g2.toNat (Core.mk v16.kind v16.id v16.name v16.n v16.ids (Form.mk v16.data.kind v16.data.name (w64 ((w64 (v12.1 + 1)) + 1)) v16.data.scopes v16.data.kids) v16.kids)).set g2.toNat (Core.mk v17.kind v17.id v17.name v17.n v17.ids (Form.mk v17.data.kind v17.data.name v17.data.n v18.2 v17.data.kids) v17.kids)) g2).bind fun v19 =>
 (m_laws_markFormS fuel v19.data.kids v18.1).bind fun v20 =>
 (idx ((((((((((g3.set g2.toNat (Core.mk g1 v6.id v6.name v6.n v6.ids v6.data v6.kids)).set g2.toNat (Core.mk v7.kind (w64 (g1 + 1)) v7.name v7.n v7.ids v7.data v7.kids)).set g2.toNat (Core.mk v9.kind v9.id v8 v9.n v9.ids v9.data v9.kids)).set g2.toNat (Core.mk v10.kind v10.id v10.name (w64 ((w64 ((w64 (g1 + 1)) + 1)) + 1)) v10.ids v10.data v10.kids)).set g2.toNat (Core.mk v11.kind v11.id v11.name v11.n v12.2 v11.data v11.kids)).set g2.toNat (Core.mk v13.kind v13.id v13.name v13.n v13.ids (Form.mk v12.1 v13.data.name v13.data.n v13.data.scopes v13.data.kids) v13.kids)).set g2.toNat (Core.mk v15.kind v15.id v15.name v15.n v15.ids (Form.mk v15.data.kind v14 v15.data.n v15.data.scopes v15.data.kids) v15.kids)).set g2.toNat (Core.mk v16.kind v16.id v16.name v16.n v16.ids (Form.mk v16.data.kind v16.data.name (w64 ((w64 (v12.1 + 1)) + 1)) v16.data.scopes v16.data.kids) v16.kids)).set g2.toNat (Core.mk v17.kind v17.id v17.name v17.n v17.ids (Form.mk v17.data.kind v17.data.name v17.data.n v18.2 v17.data.kids) v17.kids)).set g2.toNat (Core.mk v19.kind v19.id v19.name v19.n v19.ids (Form.mk v19.data.kind v19.data.name v19.data.n v19.data.scopes v20.2) v19.kids)) g2).bind fun v21 =>
 (m_laws_markCoreS fuel v21.kids v20.1).bind fun v22 =>
 m_laws_markCoreS_l1 fuel  v22.1 (w64 (g2 + 1)) (((((((((((g3.set g2.toNat (Core.mk g1 v6.id v6.name v6.n v6.ids v6.data v6.kids)).set g2.toNat (Core.mk v7.kind (w64 (g1 + 1)) v7.name v7.n v7.ids v7.data v7.kids)).set g2.toNat (Core.mk v9.kind v9.id v8 v9.n v9.ids v9.data v9.kids)).set g2.toNat (Core.mk v10.kind v10.id v10.name (w64 ((w64 ((w64 (g1 + 1)) + 1)) + 1)) v10.ids v10.data v10.kids)).set g2.toNat (Core.mk v11.kind v11.id v11.name v11.n v12.2 v11.data v11.kids)).set g2.toNat (Core.mk v13.kind v13.id v13.name v13.n v13.ids (Form.mk v12.1 v13.data.name v13.data.n v13.data.scopes v13.data.kids) v13.kids)).set g2.toNat (Core.mk v15.kind v15.id v15.name v15.n v15.ids (Form.mk v15.data.kind v14 v15.data.n v15.data.scopes v15.data.kids) v15.kids)).set g2.toNat (Core.mk v16.kind v16.id v16.name v16.n v16.ids (Form.mk v16.data.kind v16.data.name (w64 ((w64 (v12.1 + 1)) + 1)) v16.data.scopes v16.data.kids) v16.kids)).set g2.toNat (Core.mk v17.kind v17.id v17.name v17.n v17.ids (Form.mk v17.data.kind v17.data.name v17.data.n v18.2 v17.data.kids) v17.kids)).set g2.toNat (Core.mk v19.kind v19.id v19.name v19.n v19.ids (Form.mk v19.data.kind v19.data.name v19.data.n v19.data.scopes v20.2) v19.kids)).set g2.toNat (Core.mk v21.kind v21.id v21.name v21.n v21.ids v21.data v22.2))
 else
 some (g1, g3))
end
def m_laws_markCore (fuel : Nat) (x1 : Core) (x2 : Int) : Option (Int × (List Int) × (List Int) × (List Form) × (List Core)) :=
 (m_laws_markIntS fuel x1.ids x2).bind fun v1 =>
 (m_laws_markForm fuel x1.data v1.1).bind fun v2 =>
 (m_laws_markCoreS fuel x1.kids v2.1).bind fun v3 =>
 some (v3.1, v1.2, v2.2.1, v2.2.2, v3.2)
mutual
def m_laws_heldCoreS (fuel : Nat) (x1 : (List Core)) (x2 : Int) : Option Int :=
 match fuel with
 | 0 => none
 | fuel + 1 =>
 m_laws_heldCoreS_l1 fuel x1 x2 0
def m_laws_heldCoreS_l1 (fuel : Nat) (x1 : (List Core)) (g1 : Int) (g2 : Int) : Option Int :=
 match fuel with
 | 0 => none
 | fuel + 1 =>
 (bif (decide (g2 < (x1.length : Int))) then
 (idx x1 g2).bind fun v6 =>
 (bif (decide (v6.kind ≠ g1)) then
 some (-1)
 else
 (idx x1 g2).bind fun v8 =>
 (bif (decide (v8.id ≠ (w64 (g1 + 1)))) then
 some (-1)
 else
 (idx x1 g2).bind fun v10 =>
 (m_laws_markText fuel (w64 ((w64 (g1 + 1)) + 1))).bind fun v11 =>
 (bif (decide (v10.name ≠ v11)) then
 some (-1)
 else
 (idx x1 g2).bind fun v13 =>
 (bif (decide (v13.n ≠ (w64 ((w64 ((w64 (g1 + 1)) + 1)) + 1)))) then
 some (-1)
 else
 (idx x1 g2).bind fun v15 =>
 (m_laws_heldIntS fuel v15.ids (w64 ((w64 ((w64 ((w64 (g1 + 1)) + 1)) + 1)) + 1))).bind fun v16 =>
 (bif (decide (v16 < 0)) then
 some (-1)
 else
 (idx x1 g2).bind fun v18 =>
 (bif (decide (v18.data.kind ≠ v16)) then
 some (-1)
 else
 (idx x1 g2).bind fun v20 =>
 (m_laws_markText fuel (w64 (v16 + 1))).bind fun v21 =>
 (bif (decide (v20.data.name ≠ v21)) then
 some (-1)
 else
 (idx x1 g2).bind fun v23 =>
 (bif (decide (v23.data.n ≠ (w64 ((w64 (v16 + 1)) + 1)))) then
 some (-1)
 else
 (idx x1 g2).bind fun v25 =>
 (m_laws_heldIntS fuel v25.data.scopes (w64 ((w64 ((w64 (v16 + 1)) + 1)) + 1))).bind fun v26 =>
 (bif (decide (v26 < 0)) then
 some (-1)
 else
 (idx x1 g2).bind fun v28 =>
 (m_laws_heldFormS fuel v28.data.kids v26).bind fun v29 =>
 (bif (decide (v29 < 0)) then
 some (-1)
 else
 (idx x1 g2).bind fun v31 =>
 (m_laws_heldCoreS fuel v31.kids v29).bind fun v32 =>
 (bif (decide (v32 < 0)) then
 some (-1)
 else
 m_laws_heldCoreS_l1 fuel x1 v32 (g2 + 1))))))))))))
 else
 some g1)
end
def m_laws_heldCore (fuel : Nat) (x1 : Core) (x2 : Int) : Option Int :=
 (m_laws_heldIntS fuel x1.ids x2).bind fun v1 =>
 (bif (decide (v1 < 0)) then
 some (-1)
 else
 (m_laws_heldForm fuel x1.data v1).bind fun v3 =>
 (bif (decide (v3 < 0)) then
 some (-1)
 else
 (m_laws_heldCoreS fuel x1.kids v3).bind fun v5 =>
 (bif (decide (v5 < 0)) then
 some (-1)
 else
 some v5)))
mutual
def m_laws_FnExactNumberCore_j3 (fuel : Nat) (v6 : Core × Bool) (v22 : Int × (List Int) × (List Int) × (List Form) × (List Core)) (g30 : Bool) : Option Bool :=
 match fuel with
 | 0 => none
 | fuel + 1 =>
 (bif g30 then
 some false
 else
 (m_laws_heldCore fuel (Core.mk v6.1.kind v6.1.id v6.1.name v6.1.n v22.2.1 (Form.mk v6.1.data.kind v6.1.data.name v6.1.data.n v22.2.2.1 v22.2.2.2.1) v22.2.2.2.2) 1).bind fun v33 =>
 (bif (decide (v33 < 0)) then
 some false
 else
 (bif (decide (v33 ≠ v22.1)) then
 some false
 else
 some true)))
def m_laws_FnExactNumberCore_j2 (fuel : Nat) (x1 : Core) (v4 : Core × Bool) (v6 : Core × Bool) (g19 : Bool) : Option Bool :=
 match fuel with
 | 0 => none
 | fuel + 1 =>
 (bif g19 then
 some false
 else
 (m_laws_markCore fuel v6.1 1).bind fun v22 =>
 (m_laws_heldCore fuel (Core.mk v6.1.kind v6.1.id v6.1.name v6.1.n v22.2.1 (Form.mk v6.1.data.kind v6.1.data.name v6.1.data.n v22.2.2.1 v22.2.2.2.1) v22.2.2.2.2) 1).bind fun v23 =>
 (bif (decide (v23 < 0)) then
 some false
 else
 (bif (decide (v23 ≠ v22.1)) then
 some false
 else
 (m_laws_toCore fuel x1).bind fun v26 =>
 (m_impl_NumberCore fuel v26).bind fun v27 =>
 (m_laws_eqCore fuel v27.1 v4.1).bind fun v28 =>
 (bif (!v28) then
 m_laws_FnExactNumberCore_j3 fuel v6 v22 true
 else
 m_laws_FnExactNumberCore_j3 fuel v6 v22 (decide (v27.2 ≠ v4.2))))))
def m_laws_FnExactNumberCore_j1 (fuel : Nat) (x1 : Core) (v4 : Core × Bool) (v5 : Core) (v6 : Core × Bool) (g9 : Bool) : Option Bool :=
 match fuel with
 | 0 => none
 | fuel + 1 =>
 (bif g9 then
 some false
 else
 (m_laws_toCore fuel x1).bind fun v12 =>
 (m_laws_eqCore fuel v5 v12).bind fun v13 =>
 (bif (!v13) then
 some false
 else
 (m_laws_markCore fuel v5 1).bind fun v15 =>
 (bif (decide (v15.1 < 0)) then
 m_laws_FnExactNumberCore_j2 fuel x1 v4 v6 true
 else
 (m_laws_eqCore fuel v6.1 v4.1).bind fun v17 =>
 (bif (!v17) then
 m_laws_FnExactNumberCore_j2 fuel x1 v4 v6 true
 else
 m_laws_FnExactNumberCore_j2 fuel x1 v4 v6 (decide (v6.2 ≠ v4.2))))))
end
def m_laws_FnExactNumberCore (fuel : Nat) (x1 : Core) : Option Bool :=
 (m_laws_szCore fuel x1 1048576).bind fun v1 =>
 (bif (decide (v1 < 0)) then
 some true
 else
 (m_laws_toCore fuel x1).bind fun v3 =>
 (m_spec_NumberCore fuel v3).bind fun v4 =>
 (m_laws_toCore fuel x1).bind fun v5 =>
 (m_impl_NumberCore fuel v5).bind fun v6 =>
 (m_laws_eqCore fuel v6.1 v4.1).bind fun v7 =>
 (bif (!v7) then
 m_laws_FnExactNumberCore_j1 fuel x1 v4 v5 v6 true
 else
 m_laws_FnExactNumberCore_j1 fuel x1 v4 v5 v6 (decide (v6.2 ≠ v4.2))))
end Go.Abs
