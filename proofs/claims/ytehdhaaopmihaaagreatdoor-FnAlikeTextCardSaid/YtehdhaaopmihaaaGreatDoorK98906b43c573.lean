/- A part of the proof: what the functions that the law calls answer, as pure values. -/
import Derived.Test.YtehdhaaopmihaaaGreatDoorK2fa2763a6b98
import Derived.Test.YtehdhaaopmihaaaGreatDoorKd19899f98c41
set_option linter.unusedSimpArgs false
set_option linter.unusedVariables false
set_option maxHeartbeats 4000000
namespace Go.Abs
mutual
def m_spec_l6Some (fuel : Nat) (o1 : l15Rd) (x2 : (List Int)) (x3 : Int) (x4 : Int) : Option (Core × Int × l15Rd) :=
 match fuel with
 | 0 => none
 | fuel + 1 =>
 (bif (decide (x3 = 0)) then
 (bif (decide (0 < (x2.length : Int))) then
 (m_spec_l15Rd_pick fuel o1 3).bind fun v3 =>
 (bif (decide (0 < v3.1)) then
 (m_spec_l15Rd_pick fuel v3.2 (x2.length : Int)).bind fun v5 =>
 (idx x2 v5.1).bind fun v6 =>
 some ((Core.mk 1 v6 (⟨#[]⟩ : ByteArray) 0 ([] : List Int) (Form.mk 0 (⟨#[]⟩ : ByteArray) 0 ([] : List Int) ([] : List Form)) ([] : List Core)), x4, v5.2)
 else
 (m_spec_l15Rd_pick fuel v3.2 4).bind fun v7 =>
 (bif (decide (v7.1 = 0)) then
 (m_spec_l1Some fuel v7.2 1).bind fun v9 =>
 some ((Core.mk 4 0 (⟨#[]⟩ : ByteArray) 0 ([] : List Int) v9.1 ([] : List Core)), x4, v9.2)
 else
 (bif (decide (v7.1 = 1)) then
 (m_spec_l15Rd_of fuel v7.2 [(⟨#[102]⟩ : ByteArray), (⟨#[43]⟩ : ByteArray), (⟨#[108, 105, 115, 116]⟩ : ByteArray)]).bind fun v11 =>
 some ((Core.mk 2 0 v11.1 0 ([] : List Int) (Form.mk 0 (⟨#[]⟩ : ByteArray) 0 ([] : List Int) ([] : List Form)) ([] : List Core)), x4, v11.2)
 else
 (m_spec_l15Rd_num fuel v7.2 [0, 1, 5, 42]).bind fun v12 =>
 some ((Core.mk 3 0 (⟨#[]⟩ : ByteArray) v12.1 ([] : List Int) (Form.mk 0 (⟨#[]⟩ : ByteArray) 0 ([] : List Int) ([] : List Form)) ([] : List Core)), x4, v12.2))))
 else
 (m_spec_l15Rd_pick fuel o1 4).bind fun v13 =>
 (bif (decide (v13.1 = 0)) then
 (m_spec_l1Some fuel v13.2 1).bind fun v15 =>
 some ((Core.mk 4 0 (⟨#[]⟩ : ByteArray) 0 ([] : List Int) v15.1 ([] : List Core)), x4, v15.2)
 else
 (bif (decide (v13.1 = 1)) then
 (m_spec_l15Rd_of fuel v13.2 [(⟨#[102]⟩ : ByteArray), (⟨#[43]⟩ : ByteArray), (⟨#[108, 105, 115, 116]⟩ : ByteArray)]).bind fun v17 =>
 some ((Core.mk 2 0 v17.1 0 ([] : List Int) (Form.mk 0 (⟨#[]⟩ : ByteArray) 0 ([] : List Int) ([] : List Form)) ([] : List Core)), x4, v17.2)
 else
 (m_spec_l15Rd_num fuel v13.2 [0, 1, 5, 42]).bind fun v18 =>
 some ((Core.mk 3 0 (⟨#[]⟩ : ByteArray) v18.1 ([] : List Int) (Form.mk 0 (⟨#[]⟩ : ByteArray) 0 ([] : List Int) ([] : List Form)) ([] : List Core)), x4, v18.2))))
 else
 (m_spec_l15Rd_pick fuel o1 4).bind fun v19 =>
 (bif (decide (v19.1 = 0)) then
 (bif (decide (0 < (x2.length : Int))) then
 (m_spec_l15Rd_pick fuel v19.2 3).bind fun v22 =>
 (bif (decide (0 < v22.1)) then
 (m_spec_l15Rd_pick fuel v22.2 (x2.length : Int)).bind fun v24 =>
 (idx x2 v24.1).bind fun v25 =>
 some ((Core.mk 1 v25 (⟨#[]⟩ : ByteArray) 0 ([] : List Int) (Form.mk 0 (⟨#[]⟩ : ByteArray) 0 ([] : List Int) ([] : List Form)) ([] : List Core)), x4, v24.2)
 else
 (m_spec_l15Rd_pick fuel v22.2 4).bind fun v26 =>
 (bif (decide (v26.1 = 0)) then
 (m_spec_l1Some fuel v26.2 1).bind fun v28 =>
 some ((Core.mk 4 0 (⟨#[]⟩ : ByteArray) 0 ([] : List Int) v28.1 ([] : List Core)), x4, v28.2)
 else
 (bif (decide (v26.1 = 1)) then
 (m_spec_l15Rd_of fuel v26.2 [(⟨#[102]⟩ : ByteArray), (⟨#[43]⟩ : ByteArray), (⟨#[108, 105, 115, 116]⟩ : ByteArray)]).bind fun v30 =>
 some ((Core.mk 2 0 v30.1 0 ([] : List Int) (Form.mk 0 (⟨#[]⟩ : ByteArray) 0 ([] : List Int) ([] : List Form)) ([] : List Core)), x4, v30.2)
 else
 (m_spec_l15Rd_num fuel v26.2 [0, 1, 5, 42]).bind fun v31 =>
 some ((Core.mk 3 0 (⟨#[]⟩ : ByteArray) v31.1 ([] : List Int) (Form.mk 0 (⟨#[]⟩ : ByteArray) 0 ([] : List Int) ([] : List Form)) ([] : List Core)), x4, v31.2))))
 else
 (m_spec_l15Rd_pick fuel v19.2 4).bind fun v32 =>
 (bif (decide (v32.1 = 0)) then
 (m_spec_l1Some fuel v32.2 1).bind fun v34 =>
 some ((Core.mk 4 0 (⟨#[]⟩ : ByteArray) 0 ([] : List Int) v34.1 ([] : List Core)), x4, v34.2)
 else
 (bif (decide (v32.1 = 1)) then
 (m_spec_l15Rd_of fuel v32.2 [(⟨#[102]⟩ : ByteArray), (⟨#[43]⟩ : ByteArray), (⟨#[108, 105, 115, 116]⟩ : ByteArray)]).bind fun v36 =>
 some ((Core.mk 2 0 v36.1 0 ([] : List Int) (Form.mk 0 (⟨#[]⟩ : ByteArray) 0 ([] : List Int) ([] : List Form)) ([] : List Core)), x4, v36.2)
 else
 (m_spec_l15Rd_num fuel v32.2 [0, 1, 5, 42]).bind fun v37 =>
 some ((Core.mk 3 0 (⟨#[]⟩ : ByteArray) v37.1 ([] : List Int) (Form.mk 0 (⟨#[]⟩ : ByteArray) 0 ([] : List Int) ([] : List Form)) ([] : List Core)), x4, v37.2))))
 else
 (m_spec_l15Rd_num fuel v19.2 [6, 5, 7, 5]).bind fun v38 =>
 (bif (decide (v38.1 = 5)) then
 (m_spec_l15Rd_num fuel v38.2 [1, 2, 0]).bind fun v40 =>
 m_spec_l6Some_l1 fuel x3 v38 x2 x4 v40.1 v40.2.b v40.2.p ([] : List Int)
 else
 (bif (decide (v38.1 = 6)) then
 (m_spec_l15Rd_num fuel v38.2 [2, 1, 3]).bind fun v63 =>
 m_spec_l6Some_l3 fuel x2 x3 v38 v63 x4 0 v63.2.b v63.2.p ([] : List Core)
 else
 m_spec_l6Some_l4 fuel x2 x3 v38 x4 0 v38.2.b v38.2.p ([] : List Core)))))
def m_spec_l6Some_l2 (fuel : Nat) (x3 : Int) (v38 : Int × l15Rd) (g41 : (List Int)) (g46 : (List Int)) (g53 : Int) (g54 : Int) (g55 : (List Int)) (g56 : Int) (g57 : (List Core)) : Option (Core × Int × l15Rd) :=
 match fuel with
 | 0 => none
 | fuel + 1 =>
 (bif (decide (g54 < 1)) then
 (m_spec_l6Some fuel (l15Rd.mk g55 g56) g41 (w64 (x3 - 1)) g53).bind fun v60 =>
 chk (decide ((g57.length + [v60.1].length) * 168 ≤ 140737488355328)) <|
 m_spec_l6Some_l2 fuel x3 v38 g41 g46 v60.2.1 (w64 (g54 + 1)) v60.2.2.b v60.2.2.p (g57 ++ [v60.1])
 else
 some ((Core.mk v38.1 0 (⟨#[]⟩ : ByteArray) 0 g46 (Form.mk 0 (⟨#[]⟩ : ByteArray) 0 ([] : List Int) ([] : List Form)) g57), g53, (l15Rd.mk g55 g56)))
def m_spec_l6Some_l1 (fuel : Nat) (x3 : Int) (v38 : Int × l15Rd) (g41 : (List Int)) (g42 : Int) (g43 : Int) (g44 : (List Int)) (g45 : Int) (g46 : (List Int)) : Option (Core × Int × l15Rd) :=
 match fuel with
 | 0 => none
 | fuel + 1 =>
 (bif (decide (0 < g43)) then
 (m_spec_l15Rd_num fuel (l15Rd.mk g44 g45) [1, 2, 5]).bind fun v49 =>
 chk (decide ((g46.length + [(w64 (g42 + v49.1))].length) * 8 ≤ 140737488355328)) <|
 chk (decide ((([] : List Int).length + g41.length) * 8 ≤ 140737488355328)) <|
 chk (decide (((([] : List Int) ++ g41).length + [(w64 (g42 + v49.1))].length) * 8 ≤ 140737488355328)) <|
 m_spec_l6Some_l1 fuel x3 v38 ((([] : List Int) ++ g41) ++ [(w64 (g42 + v49.1))]) (w64 (g42 + v49.1)) (w64 (g43 - 1)) v49.2.b v49.2.p (g46 ++ [(w64 (g42 + v49.1))])
 else
 m_spec_l6Some_l2 fuel x3 v38 g41 g46 g42 0 g44 g45 ([] : List Core))
def m_spec_l6Some_l3 (fuel : Nat) (x2 : (List Int)) (x3 : Int) (v38 : Int × l15Rd) (v63 : Int × l15Rd) (g64 : Int) (g65 : Int) (g66 : (List Int)) (g67 : Int) (g68 : (List Core)) : Option (Core × Int × l15Rd) :=
 match fuel with
 | 0 => none
 | fuel + 1 =>
 (bif (decide (g65 < v63.1)) then
 (m_spec_l6Some fuel (l15Rd.mk g66 g67) x2 (w64 (x3 - 1)) g64).bind fun v71 =>
 chk (decide ((g68.length + [v71.1].length) * 168 ≤ 140737488355328)) <|
 m_spec_l6Some_l3 fuel x2 x3 v38 v63 v71.2.1 (w64 (g65 + 1)) v71.2.2.b v71.2.2.p (g68 ++ [v71.1])
 else
 some ((Core.mk v38.1 0 (⟨#[]⟩ : ByteArray) 0 ([] : List Int) (Form.mk 0 (⟨#[]⟩ : ByteArray) 0 ([] : List Int) ([] : List Form)) g68), g64, (l15Rd.mk g66 g67)))
def m_spec_l6Some_l4 (fuel : Nat) (x2 : (List Int)) (x3 : Int) (v38 : Int × l15Rd) (g73 : Int) (g74 : Int) (g75 : (List Int)) (g76 : Int) (g77 : (List Core)) : Option (Core × Int × l15Rd) :=
 match fuel with
 | 0 => none
 | fuel + 1 =>
 (bif (decide (g74 < 3)) then
 (m_spec_l6Some fuel (l15Rd.mk g75 g76) x2 (w64 (x3 - 1)) g73).bind fun v80 =>
 chk (decide ((g77.length + [v80.1].length) * 168 ≤ 140737488355328)) <|
 m_spec_l6Some_l4 fuel x2 x3 v38 v80.2.1 (w64 (g74 + 1)) v80.2.2.b v80.2.2.p (g77 ++ [v80.1])
 else
 some ((Core.mk v38.1 0 (⟨#[]⟩ : ByteArray) 0 ([] : List Int) (Form.mk 0 (⟨#[]⟩ : ByteArray) 0 ([] : List Int) ([] : List Form)) g77), g73, (l15Rd.mk g75 g76)))
end
mutual
def m_spec_l6Copy (fuel : Nat) (x1 : Core) : Option Core :=
 match fuel with
 | 0 => none
 | fuel + 1 =>
 chk (decide ((([] : List Int).length + x1.ids.length) * 8 ≤ 140737488355328)) <|
 (m_spec_l1Copy fuel x1.data).bind fun v2 =>
 m_spec_l6Copy_l1 fuel x1 v2 0 ([] : List Core)
def m_spec_l6Copy_l1 (fuel : Nat) (x1 : Core) (v2 : Form) (g3 : Int) (g4 : (List Core)) : Option Core :=
 match fuel with
 | 0 => none
 | fuel + 1 =>
 (bif (decide (g3 < (x1.kids.length : Int))) then
 (idx x1.kids g3).bind fun v8 =>
 (m_spec_l6Copy fuel v8).bind fun v9 =>
 chk (decide ((g4.length + [v9].length) * 168 ≤ 140737488355328)) <|
 m_spec_l6Copy_l1 fuel x1 v2 (g3 + 1) (g4 ++ [v9])
 else
 some (Core.mk x1.kind x1.id x1.name x1.n (([] : List Int) ++ x1.ids) v2 g4))
end
def m_spec_l6Mutate (fuel : Nat) (o1 : l15Rd) (x2 : Core) : Option (Core × l15Rd) :=
 match fuel with
 | 0 => none
 | fuel + 1 =>
 (m_spec_l6Copy fuel x2).bind fun v1 =>
 (bif (decide (0 < (v1.kids.length : Int))) then
 (m_spec_l15Rd_pick fuel o1 2).bind fun v3 =>
 (bif (decide (0 < v3.1)) then
 (m_spec_l15Rd_pick fuel v3.2 (v1.kids.length : Int)).bind fun v5 =>
 (idx v1.kids v5.1).bind fun v6 =>
 (m_spec_l6Mutate fuel v5.2 v6).bind fun v7 =>
 (idx v1.kids v5.1).bind fun v8 =>
 some ((Core.mk v1.kind v1.id v1.name v1.n v1.ids v1.data (v1.kids.set v5.1.toNat v7.1)), v7.2)
 else
 (m_spec_l15Rd_pick fuel v3.2 12).bind fun v9 =>
 (bif (decide (v9.1 = 0)) then
 (m_spec_l15Rd_num fuel v9.2 [0, 8, 3, 6]).bind fun v11 =>
 some ((Core.mk v11.1 v1.id v1.name v1.n v1.ids v1.data v1.kids), v11.2)
 else
 (bif (decide (v9.1 = 1)) then
 (m_spec_l15Rd_num fuel v9.2 [0, 1, 1000, 2]).bind fun v13 =>
 some ((Core.mk v1.kind v13.1 v1.name v1.n v1.ids v1.data v1.kids), v13.2)
 else
 (bif (decide (v9.1 = 2)) then
 (m_spec_l15Rd_num fuel v9.2 [1, 900, 0]).bind fun v15 =>
 chk (decide ((v1.ids.length + [v15.1].length) * 8 ≤ 140737488355328)) <|
 some ((Core.mk v1.kind v1.id v1.name v1.n (v1.ids ++ [v15.1]) v1.data v1.kids), v15.2)
 else
 (bif (decide (v9.1 = 3)) then
 (m_spec_l15Rd_of fuel v9.2 [(⟨#[]⟩ : ByteArray), (⟨#[103]⟩ : ByteArray), (⟨#[65]⟩ : ByteArray)]).bind fun v18 =>
 some ((Core.mk v1.kind v1.id v18.1 v1.n v1.ids v1.data v1.kids), v18.2)
 else
 some (v1, v9.2))))))
 else
 (m_spec_l15Rd_pick fuel o1 12).bind fun v19 =>
 (bif (decide (v19.1 = 0)) then
 (m_spec_l15Rd_num fuel v19.2 [0, 8, 3, 6]).bind fun v21 =>
 some ((Core.mk v21.1 v1.id v1.name v1.n v1.ids v1.data v1.kids), v21.2)
 else
 (bif (decide (v19.1 = 1)) then
 (m_spec_l15Rd_num fuel v19.2 [0, 1, 1000, 2]).bind fun v23 =>
 some ((Core.mk v1.kind v23.1 v1.name v1.n v1.ids v1.data v1.kids), v23.2)
 else
 (bif (decide (v19.1 = 2)) then
 (m_spec_l15Rd_num fuel v19.2 [1, 900, 0]).bind fun v25 =>
 chk (decide ((v1.ids.length + [v25.1].length) * 8 ≤ 140737488355328)) <|
 some ((Core.mk v1.kind v1.id v1.name v1.n (v1.ids ++ [v25.1]) v1.data v1.kids), v25.2)
 else
 (bif (decide (v19.1 = 3)) then
 (m_spec_l15Rd_of fuel v19.2 [(⟨#[]⟩ : ByteArray), (⟨#[103]⟩ : ByteArray), (⟨#[65]⟩ : ByteArray)]).bind fun v28 =>
 some ((Core.mk v1.kind v1.id v28.1 v1.n v1.ids v1.data v1.kids), v28.2)
 else
 some (v1, v19.2))))))
def m_spec_l6Draw (fuel : Nat) (x1 : (List Int)) : Option Core :=
 (m_spec_l15Open fuel x1).bind fun v1 =>
 (m_spec_l15Rd_num fuel v1 [3, 4, 2]).bind fun v2 =>
 (m_spec_l6Some fuel v2.2 ([] : List Int) v2.1 0).bind fun v3 =>
 (m_spec_l15Rd_pick fuel v3.2.2 8).bind fun v4 =>
 (bif (decide (v4.1 = 0)) then
 (m_spec_l6Mutate fuel v4.2 v3.1).bind fun v6 =>
 (m_spec_l6Mutate fuel v6.2 v6.1).bind fun v7 =>
 some v7.1
 else
 some v3.1)
mutual
def m_impl_CoreSize (fuel : Nat) (x1 : Core) : Option Int :=
 match fuel with
 | 0 => none
 | fuel + 1 =>
 m_impl_CoreSize_l1 fuel x1 1 0
def m_impl_CoreSize_l1 (fuel : Nat) (x1 : Core) (g1 : Int) (g2 : Int) : Option Int :=
 match fuel with
 | 0 => none
 | fuel + 1 =>
 (bif (decide (g2 < (x1.kids.length : Int))) then
 (idx x1.kids g2).bind fun v6 =>
 (m_impl_CoreSize fuel v6).bind fun v7 =>
 m_impl_CoreSize_l1 fuel x1 (w64 (g1 + v7)) (g2 + 1)
 else
 some g1)
end
mutual
def m_impl_alike (fuel : Nat) (x1 : Core) (x2 : Core) (x3 : (Int → Option Int)) : Option Bool :=
 match fuel with
 | 0 => none
 | fuel + 1 =>
 (bif (decide (x1.kind ≠ x2.kind)) then
 m_impl_alike_j1 fuel x1 x2 x3 true
 else
 (bif (decide ((x1.kids.length : Int) ≠ (x2.kids.length : Int))) then
 m_impl_alike_j1 fuel x1 x2 x3 true
 else
 m_impl_alike_j1 fuel x1 x2 x3 (decide ((x1.ids.length : Int) ≠ (x2.ids.length : Int)))))
def m_impl_alike_l3 (fuel : Nat) (x1 : Core) (x2 : Core) (g9 : Int) (g10 : (Int → Option Int)) : Option Bool :=
 match fuel with
 | 0 => none
 | fuel + 1 =>
 (bif (decide (g9 < (x1.ids.length : Int))) then
 (idx x1.ids g9).bind fun v14 =>
 (idx x2.ids g9).bind fun v15 =>
 m_impl_alike_l3 fuel x1 x2 (g9 + 1) (mapSet g10 v14 v15)
 else
 m_impl_alike_j2 fuel x1 x2 g10)
def m_impl_alike_j2 (fuel : Nat) (x1 : Core) (x2 : Core) (g16 : (Int → Option Int)) : Option Bool :=
 match fuel with
 | 0 => none
 | fuel + 1 =>
 (idx x1.kids 0).bind fun v18 =>
 (idx x2.kids 0).bind fun v19 =>
 (m_impl_alike fuel v18 v19 g16).bind fun v20 =>
 some v20
def m_impl_alike_l5 (fuel : Nat) (x1 : Core) (x2 : Core) (x3 : (Int → Option Int)) (g27 : Int) : Option Bool :=
 match fuel with
 | 0 => none
 | fuel + 1 =>
 (bif (decide (g27 < (x1.kids.length : Int))) then
 (idx x1.kids g27).bind fun v31 =>
 (idx x2.kids g27).bind fun v32 =>
 (m_impl_alike fuel v31 v32 x3).bind fun v33 =>
 (bif (!v33) then
 some false
 else
 m_impl_alike_l5 fuel x1 x2 x3 (g27 + 1))
 else
 some true)
def m_impl_alike_j4 (fuel : Nat) (x1 : Core) (x2 : Core) (x3 : (Int → Option Int)) (g24 : Bool) : Option Bool :=
 match fuel with
 | 0 => none
 | fuel + 1 =>
 (bif g24 then
 some false
 else
 m_impl_alike_l5 fuel x1 x2 x3 0)
def m_impl_alike_j1 (fuel : Nat) (x1 : Core) (x2 : Core) (x3 : (Int → Option Int)) (g3 : Bool) : Option Bool :=
 match fuel with
 | 0 => none
 | fuel + 1 =>
 (bif g3 then
 some false
 else
 (bif (decide (x1.kind = 1)) then
 some (decide ((mapGet x3 x1.id) = x2.id))
 else
 (bif (decide (x1.kind = 5)) then
 m_impl_alike_l3 fuel x1 x2 0 x3
 else
 (bif (decide (x1.name ≠ x2.name)) then
 m_impl_alike_j4 fuel x1 x2 x3 true
 else
 (bif (decide (x1.n ≠ x2.n)) then
 m_impl_alike_j4 fuel x1 x2 x3 true
 else
 (m_impl_FormSame fuel x1.data x2.data).bind fun v23 =>
 m_impl_alike_j4 fuel x1 x2 x3 (!v23))))))
end
mutual
def m_impl_alike_n (fuel : Nat) (x1 : Core) (x2 : Core) : Option Bool :=
 match fuel with
 | 0 => none
 | fuel + 1 =>
 (bif (decide (x1.kind ≠ x2.kind)) then
 m_impl_alike_n_j1 fuel x1 x2 true
 else
 (bif (decide ((x1.kids.length : Int) ≠ (x2.kids.length : Int))) then
 m_impl_alike_n_j1 fuel x1 x2 true
 else
 m_impl_alike_n_j1 fuel x1 x2 (decide ((x1.ids.length : Int) ≠ (x2.ids.length : Int)))))
def m_impl_alike_n_l5 (fuel : Nat) (x1 : Core) (x2 : Core) (g26 : Int) : Option Bool :=
 match fuel with
 | 0 => none
 | fuel + 1 =>
 (bif (decide (g26 < (x1.kids.length : Int))) then
 (idx x1.kids g26).bind fun v30 =>
 (idx x2.kids g26).bind fun v31 =>
 (m_impl_alike_n fuel v30 v31).bind fun v32 =>
 (bif (!v32) then
 some false
 else
 m_impl_alike_n_l5 fuel x1 x2 (g26 + 1))
 else
 some true)
def m_impl_alike_n_j4 (fuel : Nat) (x1 : Core) (x2 : Core) (g23 : Bool) : Option Bool :=
 match fuel with
 | 0 => none
 | fuel + 1 =>
 (bif g23 then
 some false
 else
 m_impl_alike_n_l5 fuel x1 x2 0)
def m_impl_alike_n_j1 (fuel : Nat) (x1 : Core) (x2 : Core) (g3 : Bool) : Option Bool :=
 match fuel with
 | 0 => none
 | fuel + 1 =>
 (bif g3 then
 some false
 else
 (bif (decide (x1.kind = 1)) then
 some (decide (0 = x2.id))
 else
 (bif (decide (x1.kind = 5)) then
 m_impl_alike_l3 fuel x1 x2 0 map0
 else
 (bif (decide (x1.name ≠ x2.name)) then
 m_impl_alike_n_j4 fuel x1 x2 true
 else
 (bif (decide (x1.n ≠ x2.n)) then
 m_impl_alike_n_j4 fuel x1 x2 true
 else
 (m_impl_FormSame fuel x1.data x2.data).bind fun v22 =>
 m_impl_alike_n_j4 fuel x1 x2 (!v22))))))
end
def m_impl_CoreAlike (fuel : Nat) (x1 : Core) (x2 : Core) : Option Bool :=
 (m_impl_CoreValid fuel x1).bind fun v1 =>
 (bif v1 then
 (m_impl_CoreValid fuel x2).bind fun v3 =>
 (bif v3 then
 (m_impl_alike_n fuel x1 x2).bind fun v5 =>
 some v5
 else
 some false)
 else
 some false)
def m_spec_l6Last_l1 (fuel : Nat) (x1 : (List Int)) (x2 : Int) (g1 : Int) : Option Int :=
 match fuel with
 | 0 => none
 | fuel + 1 =>
 (bif (decide (0 ≤ g1)) then
 (idx x1 g1).bind fun v4 =>
 (bif (decide (v4 = x2)) then
 some (w64 ((w64 ((x1.length : Int) - 1)) - g1))
 else
 m_spec_l6Last_l1 fuel x1 x2 (w64 (g1 - 1)))
 else
 some (-1))
def m_spec_l6Last (fuel : Nat) (x1 : (List Int)) (x2 : Int) : Option Int :=
 m_spec_l6Last_l1 fuel x1 x2 (w64 ((x1.length : Int) - 1))
mutual
def m_spec_l6Number (fuel : Nat) (x1 : Core) (x2 : (List Int)) (x3 : (List Int)) (x4 : Int) : Option (Core × Int) :=
 match fuel with
 | 0 => none
 | fuel + 1 =>
 (m_spec_l1Copy fuel x1.data).bind fun v1 =>
 (bif (decide (x1.kind = 1)) then
 (m_spec_l6Last fuel x2 x1.id).bind fun v3 =>
 (idx x3 (w64 ((w64 ((x3.length : Int) - 1)) - v3))).bind fun v4 =>
 m_spec_l6Number_j1 fuel x1 x2 x3 x4 v1 v4
 else
 m_spec_l6Number_j1 fuel x1 x2 x3 x4 v1 0)
def m_spec_l6Number_l3 (fuel : Nat) (x1 : Core) (v1 : Form) (g5 : Int) (g7 : (List Int)) (g8 : (List Int)) (g9 : Int) (g10 : Int) (g11 : (List Int)) : Option (Core × Int) :=
 match fuel with
 | 0 => none
 | fuel + 1 =>
 (bif (decide (g10 < (x1.ids.length : Int))) then
 chk (decide ((g11.length + [(w64 (g9 + 1))].length) * 8 ≤ 140737488355328)) <|
 chk (decide ((([] : List Int).length + g7.length) * 8 ≤ 140737488355328)) <|
 (idx x1.ids g10).bind fun v17 =>
 chk (decide (((([] : List Int) ++ g7).length + [v17].length) * 8 ≤ 140737488355328)) <|
 chk (decide ((([] : List Int).length + g8.length) * 8 ≤ 140737488355328)) <|
 chk (decide (((([] : List Int) ++ g8).length + [(w64 (g9 + 1))].length) * 8 ≤ 140737488355328)) <|
 m_spec_l6Number_l3 fuel x1 v1 g5 ((([] : List Int) ++ g7) ++ [v17]) ((([] : List Int) ++ g8) ++ [(w64 (g9 + 1))]) (w64 (g9 + 1)) (g10 + 1) (g11 ++ [(w64 (g9 + 1))])
 else
 m_spec_l6Number_j2 fuel x1 v1 g5 g7 g8 g9 g11)
def m_spec_l6Number_l4 (fuel : Nat) (x1 : Core) (v1 : Form) (g5 : Int) (g21 : (List Int)) (g22 : (List Int)) (g24 : (List Int)) (g26 : Int) (g27 : Int) (g28 : (List Core)) : Option (Core × Int) :=
 match fuel with
 | 0 => none
 | fuel + 1 =>
 (bif (decide (g27 < (x1.kids.length : Int))) then
 (idx x1.kids g27).bind fun v32 =>
 (m_spec_l6Number fuel v32 g21 g22 g26).bind fun v33 =>
 chk (decide ((g28.length + [v33.1].length) * 168 ≤ 140737488355328)) <|
 m_spec_l6Number_l4 fuel x1 v1 g5 g21 g22 g24 v33.2 (g27 + 1) (g28 ++ [v33.1])
 else
 some ((Core.mk x1.kind g5 x1.name x1.n g24 v1 g28), g26))
def m_spec_l6Number_j2 (fuel : Nat) (x1 : Core) (v1 : Form) (g5 : Int) (g21 : (List Int)) (g22 : (List Int)) (g23 : Int) (g24 : (List Int)) : Option (Core × Int) :=
 match fuel with
 | 0 => none
 | fuel + 1 =>
 m_spec_l6Number_l4 fuel x1 v1 g5 g21 g22 g24 g23 0 ([] : List Core)
def m_spec_l6Number_j1 (fuel : Nat) (x1 : Core) (x2 : (List Int)) (x3 : (List Int)) (x4 : Int) (v1 : Form) (g5 : Int) : Option (Core × Int) :=
 match fuel with
 | 0 => none
 | fuel + 1 =>
 m_spec_l6Number_l3 fuel x1 v1 g5 x2 x3 x4 0 ([] : List Int)
end
def m_spec_NumberCore (fuel : Nat) (x1 : Core) : Option (Core × Bool) :=
 (m_spec_CoreValid fuel x1).bind fun v1 =>
 (bif (!v1) then
 some ((Core.mk 0 0 (⟨#[]⟩ : ByteArray) 0 ([] : List Int) (Form.mk 0 (⟨#[]⟩ : ByteArray) 0 ([] : List Int) ([] : List Form)) ([] : List Core)), false)
 else
 (m_spec_l6Number fuel x1 ([] : List Int) ([] : List Int) 0).bind fun v3 =>
 (bif (decide (999 < v3.2)) then
 some ((Core.mk 0 0 (⟨#[]⟩ : ByteArray) 0 ([] : List Int) (Form.mk 0 (⟨#[]⟩ : ByteArray) 0 ([] : List Int) ([] : List Form)) ([] : List Core)), false)
 else
 some (v3.1, true)))
def m_spec_l6Two_j1 (fuel : Nat) (v1 : Core) (v3 : Core × Bool) (g6 : Bool) (g7 : (List Int)) (g8 : Int) : Option (Core × Core) :=
 match fuel with
 | 0 => none
 | fuel + 1 =>
 (bif g6 then
 some (v1, v3.1)
 else
 (m_spec_l6Mutate fuel (l15Rd.mk g7 g8) v1).bind fun v11 =>
 (m_spec_l6Mutate fuel v11.2 v11.1).bind fun v12 =>
 some (v1, v12.1))
def m_spec_l6Two (fuel : Nat) (x1 : (List Int)) : Option (Core × Core) :=
 (m_spec_l6Draw fuel x1).bind fun v1 =>
 (m_spec_l15Open fuel x1).bind fun v2 =>
 (m_spec_NumberCore fuel v1).bind fun v3 =>
 (bif v3.2 then
 (m_spec_l15Rd_pick fuel v2 3).bind fun v5 =>
 m_spec_l6Two_j1 fuel v1 v3 (decide (0 < v5.1)) v5.2.b v5.2.p
 else
 m_spec_l6Two_j1 fuel v1 v3 false v2.b v2.p)
def m_spec_DrawCoreAlike (fuel : Nat) (x1 : (List Int)) : Option (Core × Core) :=
 (m_spec_l6Two fuel x1).bind fun v1 =>
 some (v1.1, v1.2)
mutual
def m_spec_l6Alike (fuel : Nat) (x1 : Core) (x2 : Core) (x3 : (List Int)) (x4 : (List Int)) : Option Bool :=
 match fuel with
 | 0 => none
 | fuel + 1 =>
 (bif (decide (x1.kind ≠ x2.kind)) then
 m_spec_l6Alike_j1 fuel x1 x2 x3 x4 true
 else
 (bif (decide (x1.name ≠ x2.name)) then
 m_spec_l6Alike_j1 fuel x1 x2 x3 x4 true
 else
 (bif (decide (x1.n ≠ x2.n)) then
 m_spec_l6Alike_j1 fuel x1 x2 x3 x4 true
 else
 (bif (decide ((x1.ids.length : Int) ≠ (x2.ids.length : Int))) then
 m_spec_l6Alike_j1 fuel x1 x2 x3 x4 true
 else
 (m_spec_FormSame fuel x1.data x2.data).bind fun v5 =>
 (bif (!v5) then
 m_spec_l6Alike_j1 fuel x1 x2 x3 x4 true
 else
 m_spec_l6Alike_j1 fuel x1 x2 x3 x4 (decide ((x1.kids.length : Int) ≠ (x2.kids.length : Int))))))))
def m_spec_l6Alike_l3 (fuel : Nat) (x1 : Core) (x2 : Core) (g19 : Int) (g20 : (List Int)) (g21 : (List Int)) : Option Bool :=
 match fuel with
 | 0 => none
 | fuel + 1 =>
 (bif (decide (g19 < (x1.kids.length : Int))) then
 (idx x1.kids g19).bind fun v25 =>
 (idx x2.kids g19).bind fun v26 =>
 (m_spec_l6Alike fuel v25 v26 g20 g21).bind fun v27 =>
 (bif (!v27) then
 some false
 else
 m_spec_l6Alike_l3 fuel x1 x2 (g19 + 1) g20 g21)
 else
 some true)
def m_spec_l6Alike_j2 (fuel : Nat) (x1 : Core) (x2 : Core) (x3 : (List Int)) (x4 : (List Int)) : Option Bool :=
 match fuel with
 | 0 => none
 | fuel + 1 =>
 chk (decide ((([] : List Int).length + x3.length) * 8 ≤ 140737488355328)) <|
 chk (decide (((([] : List Int) ++ x3).length + x1.ids.length) * 8 ≤ 140737488355328)) <|
 chk (decide ((([] : List Int).length + x4.length) * 8 ≤ 140737488355328)) <|
 chk (decide (((([] : List Int) ++ x4).length + x2.ids.length) * 8 ≤ 140737488355328)) <|
 m_spec_l6Alike_l3 fuel x1 x2 0 ((([] : List Int) ++ x3) ++ x1.ids) ((([] : List Int) ++ x4) ++ x2.ids)
def m_spec_l6Alike_j1 (fuel : Nat) (x1 : Core) (x2 : Core) (x3 : (List Int)) (x4 : (List Int)) (g7 : Bool) : Option Bool :=
 match fuel with
 | 0 => none
 | fuel + 1 =>
 (bif g7 then
 some false
 else
 (bif (decide (x1.kind = 1)) then
 (m_spec_l6Last fuel x3 x1.id).bind fun v11 =>
 (m_spec_l6Last fuel x4 x2.id).bind fun v12 =>
 (bif (decide (v11 ≠ v12)) then
 some false
 else
 m_spec_l6Alike_j2 fuel x1 x2 x3 x4 )
 else
 m_spec_l6Alike_j2 fuel x1 x2 x3 x4 ))
end
def m_spec_CoreAlike (fuel : Nat) (x1 : Core) (x2 : Core) : Option Bool :=
 (m_spec_CoreValid fuel x1).bind fun v1 =>
 (bif v1 then
 (m_spec_CoreValid fuel x2).bind fun v3 =>
 (bif v3 then
 (m_spec_l6Alike fuel x1 x2 ([] : List Int) ([] : List Int)).bind fun v5 =>
 some v5
 else
 some false)
 else
 some false)
mutual
def m_impl_renumber (fuel : Nat) (x1 : Core) (x2 : (Int → Option Int)) (o1 : Int) : Option (Core × Int) :=
 match fuel with
 | 0 => none
 | fuel + 1 =>
 (m_impl_copyForm fuel x1.data).bind fun v1 =>
 (bif (decide (x1.kind = 1)) then
 m_impl_renumber_j1 fuel x1 x2 o1 v1 (mapGet x2 x1.id)
 else
 m_impl_renumber_j1 fuel x1 x2 o1 v1 x1.id)
def m_impl_renumber_l3 (fuel : Nat) (x1 : Core) (v1 : Form) (g3 : Int) (g6 : Int) (g7 : Int) (g8 : (List Int)) (g9 : (Int → Option Int)) : Option (Core × Int) :=
 match fuel with
 | 0 => none
 | fuel + 1 =>
 (bif (decide (g6 < (x1.ids.length : Int))) then
 (idx x1.ids g6).bind fun v13 =>
 chk (decide ((g8.length + [(w64 (g7 + 1))].length) * 8 ≤ 140737488355328)) <|
 m_impl_renumber_l3 fuel x1 v1 g3 (g6 + 1) (w64 (g7 + 1)) (g8 ++ [(w64 (g7 + 1))]) (mapSet g9 v13 (w64 (g7 + 1)))
 else
 m_impl_renumber_j2 fuel x1 v1 g3 g7 g9 g8)
def m_impl_renumber_l4 (fuel : Nat) (x1 : Core) (v1 : Form) (g3 : Int) (g16 : (Int → Option Int)) (g17 : (List Int)) (g19 : Int) (g20 : Int) (g21 : (List Core)) : Option (Core × Int) :=
 match fuel with
 | 0 => none
 | fuel + 1 =>
 (bif (decide (g19 < (x1.kids.length : Int))) then
 (idx x1.kids g19).bind fun v25 =>
 (m_impl_renumber fuel v25 g16 g20).bind fun v26 =>
 chk (decide ((g21.length + [v26.1].length) * 168 ≤ 140737488355328)) <|
 m_impl_renumber_l4 fuel x1 v1 g3 g16 g17 (g19 + 1) v26.2 (g21 ++ [v26.1])
 else
 some ((Core.mk x1.kind g3 x1.name x1.n g17 v1 g21), g20))
def m_impl_renumber_j2 (fuel : Nat) (x1 : Core) (v1 : Form) (g3 : Int) (g15 : Int) (g16 : (Int → Option Int)) (g17 : (List Int)) : Option (Core × Int) :=
 match fuel with
 | 0 => none
 | fuel + 1 =>
 m_impl_renumber_l4 fuel x1 v1 g3 g16 g17 0 g15 ([] : List Core)
def m_impl_renumber_j1 (fuel : Nat) (x1 : Core) (x2 : (Int → Option Int)) (o1 : Int) (v1 : Form) (g3 : Int) : Option (Core × Int) :=
 match fuel with
 | 0 => none
 | fuel + 1 =>
 m_impl_renumber_l3 fuel x1 v1 g3 0 o1 ([] : List Int) x2
end
def m_impl_renumber_n_j1 (fuel : Nat) (x1 : Core) (o1 : Int) (v1 : Form) (g3 : Int) : Option (Core × Int) :=
 match fuel with
 | 0 => none
 | fuel + 1 =>
 m_impl_renumber_l3 fuel x1 v1 g3 0 o1 ([] : List Int) map0
def m_impl_renumber_n (fuel : Nat) (x1 : Core) (o1 : Int) : Option (Core × Int) :=
 (m_impl_copyForm fuel x1.data).bind fun v1 =>
 (bif (decide (x1.kind = 1)) then
 m_impl_renumber_n_j1 fuel x1 o1 v1 0
 else
 m_impl_renumber_n_j1 fuel x1 o1 v1 x1.id)
def m_impl_NumberCore (fuel : Nat) (x1 : Core) : Option (Core × Bool) :=
 (m_impl_CoreValid fuel x1).bind fun v1 =>
 (bif (!v1) then
 some ((Core.mk 0 0 (⟨#[]⟩ : ByteArray) 0 ([] : List Int) (Form.mk 0 (⟨#[]⟩ : ByteArray) 0 ([] : List Int) ([] : List Form)) ([] : List Core)), false)
 else
 (m_impl_renumber_n fuel x1 0).bind fun v3 =>
 (bif (decide (999 < v3.2)) then
 some ((Core.mk 0 0 (⟨#[]⟩ : ByteArray) 0 ([] : List Int) (Form.mk 0 (⟨#[]⟩ : ByteArray) 0 ([] : List Int) ([] : List Form)) ([] : List Core)), false)
 else
 some (v3.1, true)))
def m_strings_Join (fuel : Nat) (x1 : List ByteArray) (x2 : ByteArray) : Option ByteArray :=
 chk (decide (x1.length ≤ 140737488355328)) <|
 chk (decide ((Lib.join (x1.map fun s => s.data.toList) x2.data.toList).length ≤ 140737488355328)) <|
 some ⟨(Lib.join (x1.map fun s => s.data.toList) x2.data.toList).toArray⟩
def m_strconv_Itoa (fuel : Nat) (x1 : Int) : Option ByteArray :=
 chk (decide (-9223372036854775808 ≤ x1)) <|
 chk (decide (x1 ≤ 9223372036854775807)) <|
 some ⟨(Lib.itoa x1).toArray⟩
mutual
def m_impl_formText (fuel : Nat) (x1 : Form) : Option ByteArray :=
 match fuel with
 | 0 => none
 | fuel + 1 =>
 (bif (decide (x1.kind = 1)) then
 (bif (decide ((x1.scopes.length : Int) = 0)) then
 some x1.name
 else
 m_impl_formText_l2 fuel x1 ([] : List ByteArray) 0)
 else
 (bif (decide (x1.kind = 2)) then
 (m_strconv_Itoa fuel x1.n).bind fun v18 =>
 some v18
 else
 m_impl_formText_l3 fuel x1 ([] : List ByteArray) 0))
def m_impl_formText_l2 (fuel : Nat) (x1 : Form) (g3 : (List ByteArray)) (g4 : Int) : Option ByteArray :=
 match fuel with
 | 0 => none
 | fuel + 1 =>
 (bif (decide (g4 < (x1.scopes.length : Int))) then
 (idx x1.scopes g4).bind fun v8 =>
 (m_strconv_Itoa fuel v8).bind fun v9 =>
 chk (decide ((g3.length + [v9].length) * 16 ≤ 140737488355328)) <|
 m_impl_formText_l2 fuel x1 (g3 ++ [v9]) (g4 + 1)
 else
 m_impl_formText_j1 fuel x1 g3)
def m_impl_formText_j1 (fuel : Nat) (x1 : Form) (g11 : (List ByteArray)) : Option ByteArray :=
 match fuel with
 | 0 => none
 | fuel + 1 =>
 (bcat x1.name (⟨#[123]⟩ : ByteArray)).bind fun v13 =>
 (m_strings_Join fuel g11 (⟨#[44]⟩ : ByteArray)).bind fun v14 =>
 (bcat v13 v14).bind fun v15 =>
 (bcat v15 (⟨#[125]⟩ : ByteArray)).bind fun v16 =>
 some v16
def m_impl_formText_l3 (fuel : Nat) (x1 : Form) (g19 : (List ByteArray)) (g20 : Int) : Option ByteArray :=
 match fuel with
 | 0 => none
 | fuel + 1 =>
 (bif (decide (g20 < (x1.kids.length : Int))) then
 (idx x1.kids g20).bind fun v24 =>
 (m_impl_formText fuel v24).bind fun v25 =>
 chk (decide ((g19.length + [v25].length) * 16 ≤ 140737488355328)) <|
 m_impl_formText_l3 fuel x1 (g19 ++ [v25]) (g20 + 1)
 else
 (m_strings_Join fuel g19 (⟨#[32]⟩ : ByteArray)).bind fun v27 =>
 (bcat (⟨#[40]⟩ : ByteArray) v27).bind fun v28 =>
 (bcat v28 (⟨#[41]⟩ : ByteArray)).bind fun v29 =>
 some v29)
end
mutual
def m_impl_coreText (fuel : Nat) (x1 : Core) : Option ByteArray :=
 match fuel with
 | 0 => none
 | fuel + 1 =>
 m_impl_coreText_l2 fuel x1 ([] : List ByteArray) 0
def m_impl_coreText_l2 (fuel : Nat) (x1 : Core) (g1 : (List ByteArray)) (g2 : Int) : Option ByteArray :=
 match fuel with
 | 0 => none
 | fuel + 1 =>
 (bif (decide (g2 < (x1.kids.length : Int))) then
 (idx x1.kids g2).bind fun v6 =>
 (m_impl_coreText fuel v6).bind fun v7 =>
 chk (decide ((g1.length + [v7].length) * 16 ≤ 140737488355328)) <|
 m_impl_coreText_l2 fuel x1 (g1 ++ [v7]) (g2 + 1)
 else
 m_impl_coreText_j1 fuel x1 g1)
def m_impl_coreText_l4 (fuel : Nat) (x1 : Core) (v11 : ByteArray) (g22 : (List ByteArray)) (g23 : Int) : Option ByteArray :=
 match fuel with
 | 0 => none
 | fuel + 1 =>
 (bif (decide (g23 < (x1.ids.length : Int))) then
 (idx x1.ids g23).bind fun v27 =>
 (m_strconv_Itoa fuel v27).bind fun v28 =>
 (bcat (⟨#[35]⟩ : ByteArray) v28).bind fun v29 =>
 chk (decide ((g22.length + [v29].length) * 16 ≤ 140737488355328)) <|
 m_impl_coreText_l4 fuel x1 v11 (g22 ++ [v29]) (g23 + 1)
 else
 m_impl_coreText_j3 fuel v11 g22)
def m_impl_coreText_j3 (fuel : Nat) (v11 : ByteArray) (g31 : (List ByteArray)) : Option ByteArray :=
 match fuel with
 | 0 => none
 | fuel + 1 =>
 (m_strings_Join fuel g31 (⟨#[32]⟩ : ByteArray)).bind fun v33 =>
 (bcat (⟨#[40, 102, 117, 110, 32, 40]⟩ : ByteArray) v33).bind fun v34 =>
 (bcat v34 (⟨#[41, 32]⟩ : ByteArray)).bind fun v35 =>
 (bcat v35 v11).bind fun v36 =>
 (bcat v36 (⟨#[41]⟩ : ByteArray)).bind fun v37 =>
 some v37
def m_impl_coreText_j1 (fuel : Nat) (x1 : Core) (g9 : (List ByteArray)) : Option ByteArray :=
 match fuel with
 | 0 => none
 | fuel + 1 =>
 (m_strings_Join fuel g9 (⟨#[32]⟩ : ByteArray)).bind fun v11 =>
 (bif (decide (x1.kind = 1)) then
 (m_strconv_Itoa fuel x1.id).bind fun v13 =>
 (bcat (⟨#[35]⟩ : ByteArray) v13).bind fun v14 =>
 some v14
 else
 (bif (decide (x1.kind = 2)) then
 some x1.name
 else
 (bif (decide (x1.kind = 3)) then
 (m_strconv_Itoa fuel x1.n).bind fun v17 =>
 some v17
 else
 (bif (decide (x1.kind = 4)) then
 (m_impl_formText fuel x1.data).bind fun v19 =>
 (bcat (⟨#[39]⟩ : ByteArray) v19).bind fun v20 =>
 some v20
 else
 (bif (decide (x1.kind = 5)) then
 m_impl_coreText_l4 fuel x1 v11 ([] : List ByteArray) 0
 else
 (bif (decide (x1.kind = 6)) then
 (bcat (⟨#[40]⟩ : ByteArray) v11).bind fun v39 =>
 (bcat v39 (⟨#[41]⟩ : ByteArray)).bind fun v40 =>
 some v40
 else
 (bcat (⟨#[40, 105, 102, 32]⟩ : ByteArray) v11).bind fun v41 =>
 (bcat v41 (⟨#[41]⟩ : ByteArray)).bind fun v42 =>
 some v42))))))
end
def m_impl_FormatCore (fuel : Nat) (x1 : Core) : Option ByteArray :=
 (m_impl_CoreValid fuel x1).bind fun v1 =>
 (bif (!v1) then
 some (⟨#[]⟩ : ByteArray)
 else
 (m_impl_coreText fuel x1).bind fun v3 =>
 some v3)
mutual
def m_impl_freeOf_f (fuel : Nat) (x1 : Core) (x2 : (List ByteArray)) : Option (List ByteArray) :=
 match fuel with
 | 0 => none
 | fuel + 1 =>
 (bif (decide (x1.kind = 2)) then
 (m_slices_Contains_string fuel x2 x1.name).bind fun v2 =>
 (bif (!v2) then
 chk (decide ((x2.length + [x1.name].length) * 16 ≤ 140737488355328)) <|
 m_impl_freeOf_f_l1 fuel x1 (x2 ++ [x1.name]) 0
 else
 m_impl_freeOf_f_l1 fuel x1 x2 0)
 else
 m_impl_freeOf_f_l1 fuel x1 x2 0)
def m_impl_freeOf_f_l1 (fuel : Nat) (x1 : Core) (g5 : (List ByteArray)) (g6 : Int) : Option (List ByteArray) :=
 match fuel with
 | 0 => none
 | fuel + 1 =>
 (bif (decide (g6 < (x1.kids.length : Int))) then
 (idx x1.kids g6).bind fun v10 =>
 (m_impl_freeOf_f fuel v10 g5).bind fun v11 =>
 m_impl_freeOf_f_l1 fuel x1 v11 (g6 + 1)
 else
 some g5)
end
def m_impl_freeOf_n (fuel : Nat) (x1 : Core) : Option (List ByteArray) :=
 (bif (decide (x1.kind = 2)) then
 (m_slices_Contains_string fuel ([] : List ByteArray) x1.name).bind fun v2 =>
 (bif (!v2) then
 chk (decide ([x1.name].length * 16 ≤ 140737488355328)) <|
 m_impl_freeOf_f_l1 fuel x1 [x1.name] 0
 else
 m_impl_freeOf_f_l1 fuel x1 ([] : List ByteArray) 0)
 else
 m_impl_freeOf_f_l1 fuel x1 ([] : List ByteArray) 0)
def m_impl_FreeOf (fuel : Nat) (x1 : Core) : Option (List ByteArray) :=
 (m_impl_freeOf_n fuel x1).bind fun v1 =>
 some v1
def m_laws_mxTexts_l1 (fuel : Nat) (x1 : (List ByteArray)) (x2 : (List ByteArray)) (g2 : Int) : Option Bool :=
 match fuel with
 | 0 => none
 | fuel + 1 =>
 (bif (decide (g2 < (x1.length : Int))) then
 (idx x1 g2).bind fun v6 =>
 (idx x2 g2).bind fun v7 =>
 (bif (decide (v6 ≠ v7)) then
 some false
 else
 m_laws_mxTexts_l1 fuel x1 x2 (g2 + 1))
 else
 some true)
def m_laws_mxTexts (fuel : Nat) (x1 : (List ByteArray)) (x2 : (List ByteArray)) : Option Bool :=
 (bif (decide ((x1.length : Int) ≠ (x2.length : Int))) then
 some false
 else
 m_laws_mxTexts_l1 fuel x1 x2 0)
def m_laws_FnAlikeText_j1 (fuel : Nat) (v3 : Core × Core) (v4 : Bool) (g7 : Bool) : Option Bool :=
 match fuel with
 | 0 => none
 | fuel + 1 =>
 (bif g7 then
 (m_spec_CoreAlike fuel v3.1 v3.2).bind fun v10 =>
 some (decide (v4 = v10))
 else
 (m_impl_NumberCore fuel v3.1).bind fun v11 =>
 (m_impl_NumberCore fuel v3.2).bind fun v12 =>
 (m_impl_CoreSize fuel v3.1).bind fun v13 =>
 (m_impl_CoreSize fuel v3.2).bind fun v14 =>
 (bif (decide (v13 = v14)) then
 (m_impl_FreeOf fuel v3.1).bind fun v16 =>
 (m_impl_FreeOf fuel v3.2).bind fun v17 =>
 (m_laws_mxTexts fuel v16 v17).bind fun v18 =>
 (bif v18 then
 (bif (decide (v11.2 = v12.2)) then
 (bif (!v11.2) then
 some true
 else
 (m_impl_FormatCore fuel v11.1).bind fun v22 =>
 (m_impl_FormatCore fuel v12.1).bind fun v23 =>
 some (decide (v22 = v23)))
 else
 some false)
 else
 some false)
 else
 some false))
def m_laws_FnAlikeText (fuel : Nat) (x1 : (List Int)) : Option Bool :=
 (bif (decide (1048576 < (x1.length : Int))) then
 some true
 else
 (m_spec_DrawCoreAlike fuel x1).bind fun v3 =>
 (m_impl_CoreAlike fuel v3.1 v3.2).bind fun v4 =>
 (m_spec_CoreAlike fuel v3.1 v3.2).bind fun v5 =>
 (bif (decide (v4 ≠ v5)) then
 m_laws_FnAlikeText_j1 fuel v3 v4 true
 else
 m_laws_FnAlikeText_j1 fuel v3 v4 (!v4)))
end Go.Abs
