/- A part of the proof: what the functions that the law calls answer, as pure values. -/
import Derived.Test.YtehdhaaopmihaaaGreatDoorK2fa2763a6b98
import Derived.Test.YtehdhaaopmihaaaGreatDoorK5b2a5b68cfac
set_option linter.unusedSimpArgs false
set_option linter.unusedVariables false
set_option maxHeartbeats 4000000
namespace Go.Abs
mutual
def m_spec_l6Some (fuel : Nat) (o1 : l15Rd) (x2 : (List Int)) (x3 : Int) (x4 : Int) : Option (Core × Int × l15Rd) :=
 match fuel with
 | 0 => none
 | fuel + 1 =>
 (bif (decide (x3 = 0)) then
 (bif (decide (0 < (x2.length : Int))) then
 (m_spec_l15Rd_pick fuel o1 3).bind fun v3 =>
 (bif (decide (0 < v3.1)) then
 (m_spec_l15Rd_pick fuel v3.2 (x2.length : Int)).bind fun v5 =>
 (idx x2 v5.1).bind fun v6 =>
 some ((Core.mk 1 v6 (⟨#[]⟩ : ByteArray) 0 ([] : List Int) (Form.mk 0 (⟨#[]⟩ : ByteArray) 0 ([] : List Int) ([] : List Form)) ([] : List Core)), x4, v5.2)
 else
 (m_spec_l15Rd_pick fuel v3.2 4).bind fun v7 =>
 (bif (decide (v7.1 = 0)) then
 (m_spec_l1Some fuel v7.2 1).bind fun v9 =>
 some ((Core.mk 4 0 (⟨#[]⟩ : ByteArray) 0 ([] : List Int) v9.1 ([] : List Core)), x4, v9.2)
 else
 (bif (decide (v7.1 = 1)) then
 (m_spec_l15Rd_of fuel v7.2 [(⟨#[102]⟩ : ByteArray), (⟨#[43]⟩ : ByteArray), (⟨#[108, 105, 115, 116]⟩ : ByteArray)]).bind fun v11 =>
 some ((Core.mk 2 0 v11.1 0 ([] : List Int) (Form.mk 0 (⟨#[]⟩ : ByteArray) 0 ([] : List Int) ([] : List Form)) ([] : List Core)), x4, v11.2)
 else
 (m_spec_l15Rd_num fuel v7.2 [0, 1, 5, 42]).bind fun v12 =>
 some ((Core.mk 3 0 (⟨#[]⟩ : ByteArray) v12.1 ([] : List Int) (Form.mk 0 (⟨#[]⟩ : ByteArray) 0 ([] : List Int) ([] : List Form)) ([] : List Core)), x4, v12.2))))
 else
 (m_spec_l15Rd_pick fuel o1 4).bind fun v13 =>
 (bif (decide (v13.1 = 0)) then
 (m_spec_l1Some fuel v13.2 1).bind fun v15 =>
 some ((Core.mk 4 0 (⟨#[]⟩ : ByteArray) 0 ([] : List Int) v15.1 ([] : List Core)), x4, v15.2)
 else
 (bif (decide (v13.1 = 1)) then
 (m_spec_l15Rd_of fuel v13.2 [(⟨#[102]⟩ : ByteArray), (⟨#[43]⟩ : ByteArray), (⟨#[108, 105, 115, 116]⟩ : ByteArray)]).bind fun v17 =>
 some ((Core.mk 2 0 v17.1 0 ([] : List Int) (Form.mk 0 (⟨#[]⟩ : ByteArray) 0 ([] : List Int) ([] : List Form)) ([] : List Core)), x4, v17.2)
 else
 (m_spec_l15Rd_num fuel v13.2 [0, 1, 5, 42]).bind fun v18 =>
 some ((Core.mk 3 0 (⟨#[]⟩ : ByteArray) v18.1 ([] : List Int) (Form.mk 0 (⟨#[]⟩ : ByteArray) 0 ([] : List Int) ([] : List Form)) ([] : List Core)), x4, v18.2))))
 else
 (m_spec_l15Rd_pick fuel o1 4).bind fun v19 =>
 (bif (decide (v19.1 = 0)) then
 (bif (decide (0 < (x2.length : Int))) then
 (m_spec_l15Rd_pick fuel v19.2 3).bind fun v22 =>
 (bif (decide (0 < v22.1)) then
 (m_spec_l15Rd_pick fuel v22.2 (x2.length : Int)).bind fun v24 =>
 (idx x2 v24.1).bind fun v25 =>
 some ((Core.mk 1 v25 (⟨#[]⟩ : ByteArray) 0 ([] : List Int) (Form.mk 0 (⟨#[]⟩ : ByteArray) 0 ([] : List Int) ([] : List Form)) ([] : List Core)), x4, v24.2)
 else
 (m_spec_l15Rd_pick fuel v22.2 4).bind fun v26 =>
 (bif (decide (v26.1 = 0)) then
 (m_spec_l1Some fuel v26.2 1).bind fun v28 =>
 some ((Core.mk 4 0 (⟨#[]⟩ : ByteArray) 0 ([] : List Int) v28.1 ([] : List Core)), x4, v28.2)
 else
 (bif (decide (v26.1 = 1)) then
 (m_spec_l15Rd_of fuel v26.2 [(⟨#[102]⟩ : ByteArray), (⟨#[43]⟩ : ByteArray), (⟨#[108, 105, 115, 116]⟩ : ByteArray)]).bind fun v30 =>
 some ((Core.mk 2 0 v30.1 0 ([] : List Int) (Form.mk 0 (⟨#[]⟩ : ByteArray) 0 ([] : List Int) ([] : List Form)) ([] : List Core)), x4, v30.2)
 else
 (m_spec_l15Rd_num fuel v26.2 [0, 1, 5, 42]).bind fun v31 =>
 some ((Core.mk 3 0 (⟨#[]⟩ : ByteArray) v31.1 ([] : List Int) (Form.mk 0 (⟨#[]⟩ : ByteArray) 0 ([] : List Int) ([] : List Form)) ([] : List Core)), x4, v31.2))))
 else
 (m_spec_l15Rd_pick fuel v19.2 4).bind fun v32 =>
 (bif (decide (v32.1 = 0)) then
 (m_spec_l1Some fuel v32.2 1).bind fun v34 =>
 some ((Core.mk 4 0 (⟨#[]⟩ : ByteArray) 0 ([] : List Int) v34.1 ([] : List Core)), x4, v34.2)
 else
 (bif (decide (v32.1 = 1)) then
 (m_spec_l15Rd_of fuel v32.2 [(⟨#[102]⟩ : ByteArray), (⟨#[43]⟩ : ByteArray), (⟨#[108, 105, 115, 116]⟩ : ByteArray)]).bind fun v36 =>
 some ((Core.mk 2 0 v36.1 0 ([] : List Int) (Form.mk 0 (⟨#[]⟩ : ByteArray) 0 ([] : List Int) ([] : List Form)) ([] : List Core)), x4, v36.2)
 else
 (m_spec_l15Rd_num fuel v32.2 [0, 1, 5, 42]).bind fun v37 =>
 some ((Core.mk 3 0 (⟨#[]⟩ : ByteArray) v37.1 ([] : List Int) (Form.mk 0 (⟨#[]⟩ : ByteArray) 0 ([] : List Int) ([] : List Form)) ([] : List Core)), x4, v37.2))))
 else
 (m_spec_l15Rd_num fuel v19.2 [6, 5, 7, 5]).bind fun v38 =>
 (bif (decide (v38.1 = 5)) then
 (m_spec_l15Rd_num fuel v38.2 [1, 2, 0]).bind fun v40 =>
 m_spec_l6Some_l1 fuel x3 v38 x2 x4 v40.1 v40.2.b v40.2.p ([] : List Int)
 else
 (bif (decide (v38.1 = 6)) then
 (m_spec_l15Rd_num fuel v38.2 [2, 1, 3]).bind fun v63 =>
 m_spec_l6Some_l3 fuel x2 x3 v38 v63 x4 0 v63.2.b v63.2.p ([] : List Core)
 else
 m_spec_l6Some_l4 fuel x2 x3 v38 x4 0 v38.2.b v38.2.p ([] : List Core)))))
def m_spec_l6Some_l2 (fuel : Nat) (x3 : Int) (v38 : Int × l15Rd) (g41 : (List Int)) (g46 : (List Int)) (g53 : Int) (g54 : Int) (g55 : (List Int)) (g56 : Int) (g57 : (List Core)) : Option (Core × Int × l15Rd) :=
 match fuel with
 | 0 => none
 | fuel + 1 =>
 (bif (decide (g54 < 1)) then
 (m_spec_l6Some fuel (l15Rd.mk g55 g56) g41 (w64 (x3 - 1)) g53).bind fun v60 =>
 chk (decide ((g57.length + [v60.1].length) * 168 ≤ 140737488355328)) <|
 m_spec_l6Some_l2 fuel x3 v38 g41 g46 v60.2.1 (w64 (g54 + 1)) v60.2.2.b v60.2.2.p (g57 ++ [v60.1])
 else
 some ((Core.mk v38.1 0 (⟨#[]⟩ : ByteArray) 0 g46 (Form.mk 0 (⟨#[]⟩ : ByteArray) 0 ([] : List Int) ([] : List Form)) g57), g53, (l15Rd.mk g55 g56)))
def m_spec_l6Some_l1 (fuel : Nat) (x3 : Int) (v38 : Int × l15Rd) (g41 : (List Int)) (g42 : Int) (g43 : Int) (g44 : (List Int)) (g45 : Int) (g46 : (List Int)) : Option (Core × Int × l15Rd) :=
 match fuel with
 | 0 => none
 | fuel + 1 =>
 (bif (decide (0 < g43)) then
 (m_spec_l15Rd_num fuel (l15Rd.mk g44 g45) [1, 2, 5]).bind fun v49 =>
 chk (decide ((g46.length + [(w64 (g42 + v49.1))].length) * 8 ≤ 140737488355328)) <|
 chk (decide ((([] : List Int).length + g41.length) * 8 ≤ 140737488355328)) <|
 chk (decide (((([] : List Int) ++ g41).length + [(w64 (g42 + v49.1))].length) * 8 ≤ 140737488355328)) <|
 m_spec_l6Some_l1 fuel x3 v38 ((([] : List Int) ++ g41) ++ [(w64 (g42 + v49.1))]) (w64 (g42 + v49.1)) (w64 (g43 - 1)) v49.2.b v49.2.p (g46 ++ [(w64 (g42 + v49.1))])
 else
 m_spec_l6Some_l2 fuel x3 v38 g41 g46 g42 0 g44 g45 ([] : List Core))
def m_spec_l6Some_l3 (fuel : Nat) (x2 : (List Int)) (x3 : Int) (v38 : Int × l15Rd) (v63 : Int × l15Rd) (g64 : Int) (g65 : Int) (g66 : (List Int)) (g67 : Int) (g68 : (List Core)) : Option (Core × Int × l15Rd) :=
 match fuel with
 | 0 => none
 | fuel + 1 =>
 (bif (decide (g65 < v63.1)) then
 (m_spec_l6Some fuel (l15Rd.mk g66 g67) x2 (w64 (x3 - 1)) g64).bind fun v71 =>
 chk (decide ((g68.length + [v71.1].length) * 168 ≤ 140737488355328)) <|
 m_spec_l6Some_l3 fuel x2 x3 v38 v63 v71.2.1 (w64 (g65 + 1)) v71.2.2.b v71.2.2.p (g68 ++ [v71.1])
 else
 some ((Core.mk v38.1 0 (⟨#[]⟩ : ByteArray) 0 ([] : List Int) (Form.mk 0 (⟨#[]⟩ : ByteArray) 0 ([] : List Int) ([] : List Form)) g68), g64, (l15Rd.mk g66 g67)))
def m_spec_l6Some_l4 (fuel : Nat) (x2 : (List Int)) (x3 : Int) (v38 : Int × l15Rd) (g73 : Int) (g74 : Int) (g75 : (List Int)) (g76 : Int) (g77 : (List Core)) : Option (Core × Int × l15Rd) :=
 match fuel with
 | 0 => none
 | fuel + 1 =>
 (bif (decide (g74 < 3)) then
 (m_spec_l6Some fuel (l15Rd.mk g75 g76) x2 (w64 (x3 - 1)) g73).bind fun v80 =>
 chk (decide ((g77.length + [v80.1].length) * 168 ≤ 140737488355328)) <|
 m_spec_l6Some_l4 fuel x2 x3 v38 v80.2.1 (w64 (g74 + 1)) v80.2.2.b v80.2.2.p (g77 ++ [v80.1])
 else
 some ((Core.mk v38.1 0 (⟨#[]⟩ : ByteArray) 0 ([] : List Int) (Form.mk 0 (⟨#[]⟩ : ByteArray) 0 ([] : List Int) ([] : List Form)) g77), g73, (l15Rd.mk g75 g76)))
end
mutual
def m_spec_l6Copy (fuel : Nat) (x1 : Core) : Option Core :=
 match fuel with
 | 0 => none
 | fuel + 1 =>
 chk (decide ((([] : List Int).length + x1.ids.length) * 8 ≤ 140737488355328)) <|
 (m_spec_l1Copy fuel x1.data).bind fun v2 =>
 m_spec_l6Copy_l1 fuel x1 v2 0 ([] : List Core)
def m_spec_l6Copy_l1 (fuel : Nat) (x1 : Core) (v2 : Form) (g3 : Int) (g4 : (List Core)) : Option Core :=
 match fuel with
 | 0 => none
 | fuel + 1 =>
 (bif (decide (g3 < (x1.kids.length : Int))) then
 (idx x1.kids g3).bind fun v8 =>
 (m_spec_l6Copy fuel v8).bind fun v9 =>
 chk (decide ((g4.length + [v9].length) * 168 ≤ 140737488355328)) <|
 m_spec_l6Copy_l1 fuel x1 v2 (g3 + 1) (g4 ++ [v9])
 else
 some (Core.mk x1.kind x1.id x1.name x1.n (([] : List Int) ++ x1.ids) v2 g4))
end
def m_spec_l6Mutate (fuel : Nat) (o1 : l15Rd) (x2 : Core) : Option (Core × l15Rd) :=
 match fuel with
 | 0 => none
 | fuel + 1 =>
 (m_spec_l6Copy fuel x2).bind fun v1 =>
 (bif (decide (0 < (v1.kids.length : Int))) then
 (m_spec_l15Rd_pick fuel o1 2).bind fun v3 =>
 (bif (decide (0 < v3.1)) then
 (m_spec_l15Rd_pick fuel v3.2 (v1.kids.length : Int)).bind fun v5 =>
 (idx v1.kids v5.1).bind fun v6 =>
 (m_spec_l6Mutate fuel v5.2 v6).bind fun v7 =>
 (idx v1.kids v5.1).bind fun v8 =>
 some ((Core.mk v1.kind v1.id v1.name v1.n v1.ids v1.data (v1.kids.set v5.1.toNat v7.1)), v7.2)
 else
 (m_spec_l15Rd_pick fuel v3.2 12).bind fun v9 =>
 (bif (decide (v9.1 = 0)) then
 (m_spec_l15Rd_num fuel v9.2 [0, 8, 3, 6]).bind fun v11 =>
 some ((Core.mk v11.1 v1.id v1.name v1.n v1.ids v1.data v1.kids), v11.2)
 else
 (bif (decide (v9.1 = 1)) then
 (m_spec_l15Rd_num fuel v9.2 [0, 1, 1000, 2]).bind fun v13 =>
 some ((Core.mk v1.kind v13.1 v1.name v1.n v1.ids v1.data v1.kids), v13.2)
 else
 (bif (decide (v9.1 = 2)) then
 (m_spec_l15Rd_num fuel v9.2 [1, 900, 0]).bind fun v15 =>
 chk (decide ((v1.ids.length + [v15.1].length) * 8 ≤ 140737488355328)) <|
 some ((Core.mk v1.kind v1.id v1.name v1.n (v1.ids ++ [v15.1]) v1.data v1.kids), v15.2)
 else
 (bif (decide (v9.1 = 3)) then
 (m_spec_l15Rd_of fuel v9.2 [(⟨#[]⟩ : ByteArray), (⟨#[103]⟩ : ByteArray), (⟨#[65]⟩ : ByteArray)]).bind fun v18 =>
 some ((Core.mk v1.kind v1.id v18.1 v1.n v1.ids v1.data v1.kids), v18.2)
 else
 some (v1, v9.2))))))
 else
 (m_spec_l15Rd_pick fuel o1 12).bind fun v19 =>
 (bif (decide (v19.1 = 0)) then
 (m_spec_l15Rd_num fuel v19.2 [0, 8, 3, 6]).bind fun v21 =>
 some ((Core.mk v21.1 v1.id v1.name v1.n v1.ids v1.data v1.kids), v21.2)
 else
 (bif (decide (v19.1 = 1)) then
 (m_spec_l15Rd_num fuel v19.2 [0, 1, 1000, 2]).bind fun v23 =>
 some ((Core.mk v1.kind v23.1 v1.name v1.n v1.ids v1.data v1.kids), v23.2)
 else
 (bif (decide (v19.1 = 2)) then
 (m_spec_l15Rd_num fuel v19.2 [1, 900, 0]).bind fun v25 =>
 chk (decide ((v1.ids.length + [v25.1].length) * 8 ≤ 140737488355328)) <|
 some ((Core.mk v1.kind v1.id v1.name v1.n (v1.ids ++ [v25.1]) v1.data v1.kids), v25.2)
 else
 (bif (decide (v19.1 = 3)) then
 (m_spec_l15Rd_of fuel v19.2 [(⟨#[]⟩ : ByteArray), (⟨#[103]⟩ : ByteArray), (⟨#[65]⟩ : ByteArray)]).bind fun v28 =>
 some ((Core.mk v1.kind v1.id v28.1 v1.n v1.ids v1.data v1.kids), v28.2)
 else
 some (v1, v19.2))))))
def m_spec_l6Draw (fuel : Nat) (x1 : (List Int)) : Option Core :=
 (m_spec_l15Open fuel x1).bind fun v1 =>
 (m_spec_l15Rd_num fuel v1 [3, 4, 2]).bind fun v2 =>
 (m_spec_l6Some fuel v2.2 ([] : List Int) v2.1 0).bind fun v3 =>
 (m_spec_l15Rd_pick fuel v3.2.2 8).bind fun v4 =>
 (bif (decide (v4.1 = 0)) then
 (m_spec_l6Mutate fuel v4.2 v3.1).bind fun v6 =>
 (m_spec_l6Mutate fuel v6.2 v6.1).bind fun v7 =>
 some v7.1
 else
 some v3.1)
mutual
def m_spec_l15Dec (fuel : Nat) (x1 : Int) : Option ByteArray :=
 match fuel with
 | 0 => none
 | fuel + 1 =>
 (bif (decide (x1 < (-9223372036854775807))) then
 some (⟨#[45, 57, 50, 50, 51, 51, 55, 50, 48, 51, 54, 56, 53, 52, 55, 55, 53, 56, 48, 56]⟩ : ByteArray)
 else
 (bif (decide (x1 < 0)) then
 (m_spec_l15Dec fuel (w64 (0 - x1))).bind fun v3 =>
 (bcat (⟨#[45]⟩ : ByteArray) v3).bind fun v4 =>
 some v4
 else
 m_spec_l15Dec_l1 fuel  x1 (⟨#[]⟩ : ByteArray)))
def m_spec_l15Dec_l1 (fuel : Nat) (g5 : Int) (g6 : ByteArray) : Option ByteArray :=
 match fuel with
 | 0 => none
 | fuel + 1 =>
 (bif (decide (9 < g5)) then
 (bcat (strOf [(w8 (w64 (48 + (g5.tmod 10))))]) g6).bind fun v9 =>
 m_spec_l15Dec_l1 fuel  (w64 (g5.tdiv 10)) v9
 else
 (bcat (strOf [(w8 (w64 (48 + g5)))]) g6).bind fun v10 =>
 some v10)
end
mutual
def m_spec_l1Text (fuel : Nat) (x1 : Form) : Option ByteArray :=
 match fuel with
 | 0 => none
 | fuel + 1 =>
 (bif (decide (x1.kind = 2)) then
 (m_spec_l15Dec fuel x1.n).bind fun v2 =>
 some v2
 else
 (bif (decide (x1.kind = 1)) then
 m_spec_l1Text_l2 fuel x1 x1.name 0
 else
 m_spec_l1Text_l5 fuel x1 (⟨#[40]⟩ : ByteArray) 0))
def m_spec_l1Text_j3 (fuel : Nat) (x1 : Form) (g4 : ByteArray) (g5 : Int) (g10 : ByteArray) : Option ByteArray :=
 match fuel with
 | 0 => none
 | fuel + 1 =>
 (bcat g4 g10).bind fun v12 =>
 (idx x1.scopes g5).bind fun v13 =>
 (m_spec_l15Dec fuel v13).bind fun v14 =>
 (bcat v12 v14).bind fun v15 =>
 m_spec_l1Text_l2 fuel x1 v15 (g5 + 1)
def m_spec_l1Text_l2 (fuel : Nat) (x1 : Form) (g4 : ByteArray) (g5 : Int) : Option ByteArray :=
 match fuel with
 | 0 => none
 | fuel + 1 =>
 (bif (decide (g5 < (x1.scopes.length : Int))) then
 (bif (decide (g5 = 0)) then
 m_spec_l1Text_j3 fuel x1 g4 g5 (⟨#[123]⟩ : ByteArray)
 else
 m_spec_l1Text_j3 fuel x1 g4 g5 (⟨#[44]⟩ : ByteArray))
 else
 m_spec_l1Text_j1 fuel x1 g4)
def m_spec_l1Text_j4 (fuel : Nat) (g21 : ByteArray) : Option ByteArray :=
 match fuel with
 | 0 => none
 | fuel + 1 =>
 some g21
def m_spec_l1Text_j1 (fuel : Nat) (x1 : Form) (g16 : ByteArray) : Option ByteArray :=
 match fuel with
 | 0 => none
 | fuel + 1 =>
 (bif (decide (0 < (x1.scopes.length : Int))) then
 (bcat g16 (⟨#[125]⟩ : ByteArray)).bind fun v20 =>
 m_spec_l1Text_j4 fuel  v20
 else
 m_spec_l1Text_j4 fuel  g16)
def m_spec_l1Text_j6 (fuel : Nat) (x1 : Form) (g24 : Int) (g30 : ByteArray) : Option ByteArray :=
 match fuel with
 | 0 => none
 | fuel + 1 =>
 (idx x1.kids g24).bind fun v32 =>
 (m_spec_l1Text fuel v32).bind fun v33 =>
 (bcat g30 v33).bind fun v34 =>
 m_spec_l1Text_l5 fuel x1 v34 (g24 + 1)
def m_spec_l1Text_l5 (fuel : Nat) (x1 : Form) (g23 : ByteArray) (g24 : Int) : Option ByteArray :=
 match fuel with
 | 0 => none
 | fuel + 1 =>
 (bif (decide (g24 < (x1.kids.length : Int))) then
 (bif (decide (0 < g24)) then
 (bcat g23 (⟨#[32]⟩ : ByteArray)).bind fun v29 =>
 m_spec_l1Text_j6 fuel x1 g24 v29
 else
 m_spec_l1Text_j6 fuel x1 g24 g23)
 else
 (bcat g23 (⟨#[41]⟩ : ByteArray)).bind fun v35 =>
 some v35)
end
mutual
def m_spec_l6Text (fuel : Nat) (x1 : Core) : Option ByteArray :=
 match fuel with
 | 0 => none
 | fuel + 1 =>
 (bif (decide (x1.kind = 1)) then
 (m_spec_l15Dec fuel x1.id).bind fun v2 =>
 (bcat (⟨#[35]⟩ : ByteArray) v2).bind fun v3 =>
 some v3
 else
 (bif (decide (x1.kind = 2)) then
 some x1.name
 else
 (bif (decide (x1.kind = 3)) then
 (m_spec_l15Dec fuel x1.n).bind fun v6 =>
 some v6
 else
 (bif (decide (x1.kind = 4)) then
 (m_spec_l1Text fuel x1.data).bind fun v8 =>
 (bcat (⟨#[39]⟩ : ByteArray) v8).bind fun v9 =>
 some v9
 else
 (bif (decide (x1.kind = 7)) then
 m_spec_l6Text_j1 fuel x1 (⟨#[40, 105, 102, 32]⟩ : ByteArray)
 else
 m_spec_l6Text_j1 fuel x1 (⟨#[40]⟩ : ByteArray))))))
def m_spec_l6Text_j4 (fuel : Nat) (x1 : Core) (g15 : Int) (g21 : ByteArray) : Option ByteArray :=
 match fuel with
 | 0 => none
 | fuel + 1 =>
 (bcat g21 (⟨#[35]⟩ : ByteArray)).bind fun v23 =>
 (idx x1.ids g15).bind fun v24 =>
 (m_spec_l15Dec fuel v24).bind fun v25 =>
 (bcat v23 v25).bind fun v26 =>
 m_spec_l6Text_l3 fuel x1 v26 (g15 + 1)
def m_spec_l6Text_l3 (fuel : Nat) (x1 : Core) (g14 : ByteArray) (g15 : Int) : Option ByteArray :=
 match fuel with
 | 0 => none
 | fuel + 1 =>
 (bif (decide (g15 < (x1.ids.length : Int))) then
 (bif (decide (0 < g15)) then
 (bcat g14 (⟨#[32]⟩ : ByteArray)).bind fun v20 =>
 m_spec_l6Text_j4 fuel x1 g15 v20
 else
 m_spec_l6Text_j4 fuel x1 g15 g14)
 else
 (bcat g14 (⟨#[41, 32]⟩ : ByteArray)).bind fun v27 =>
 m_spec_l6Text_j2 fuel x1 v27)
def m_spec_l6Text_j6 (fuel : Nat) (x1 : Core) (g31 : Int) (g37 : ByteArray) : Option ByteArray :=
 match fuel with
 | 0 => none
 | fuel + 1 =>
 (idx x1.kids g31).bind fun v39 =>
 (m_spec_l6Text fuel v39).bind fun v40 =>
 (bcat g37 v40).bind fun v41 =>
 m_spec_l6Text_l5 fuel x1 v41 (g31 + 1)
def m_spec_l6Text_l5 (fuel : Nat) (x1 : Core) (g30 : ByteArray) (g31 : Int) : Option ByteArray :=
 match fuel with
 | 0 => none
 | fuel + 1 =>
 (bif (decide (g31 < (x1.kids.length : Int))) then
 (bif (decide (0 < g31)) then
 (bcat g30 (⟨#[32]⟩ : ByteArray)).bind fun v36 =>
 m_spec_l6Text_j6 fuel x1 g31 v36
 else
 m_spec_l6Text_j6 fuel x1 g31 g30)
 else
 (bcat g30 (⟨#[41]⟩ : ByteArray)).bind fun v42 =>
 some v42)
def m_spec_l6Text_j2 (fuel : Nat) (x1 : Core) (g28 : ByteArray) : Option ByteArray :=
 match fuel with
 | 0 => none
 | fuel + 1 =>
 m_spec_l6Text_l5 fuel x1 g28 0
def m_spec_l6Text_j1 (fuel : Nat) (x1 : Core) (g11 : ByteArray) : Option ByteArray :=
 match fuel with
 | 0 => none
 | fuel + 1 =>
 (bif (decide (x1.kind = 5)) then
 m_spec_l6Text_l3 fuel x1 (⟨#[40, 102, 117, 110, 32, 40]⟩ : ByteArray) 0
 else
 m_spec_l6Text_j2 fuel x1 g11)
end
def m_spec_FormatCore (fuel : Nat) (x1 : Core) : Option ByteArray :=
 (m_spec_CoreValid fuel x1).bind fun v1 =>
 (bif (!v1) then
 some (⟨#[]⟩ : ByteArray)
 else
 (m_spec_l6Text fuel x1).bind fun v3 =>
 some v3)
def m_strings_Join (fuel : Nat) (x1 : List ByteArray) (x2 : ByteArray) : Option ByteArray :=
 chk (decide (x1.length ≤ 140737488355328)) <|
 chk (decide ((Lib.join (x1.map fun s => s.data.toList) x2.data.toList).length ≤ 140737488355328)) <|
 some ⟨(Lib.join (x1.map fun s => s.data.toList) x2.data.toList).toArray⟩
def m_strconv_Itoa (fuel : Nat) (x1 : Int) : Option ByteArray :=
 chk (decide (-9223372036854775808 ≤ x1)) <|
 chk (decide (x1 ≤ 9223372036854775807)) <|
 some ⟨(Lib.itoa x1).toArray⟩
mutual
def m_impl_formText (fuel : Nat) (x1 : Form) : Option ByteArray :=
 match fuel with
 | 0 => none
 | fuel + 1 =>
 (bif (decide (x1.kind = 1)) then
 (bif (decide ((x1.scopes.length : Int) = 0)) then
 some x1.name
 else
 m_impl_formText_l2 fuel x1 ([] : List ByteArray) 0)
 else
 (bif (decide (x1.kind = 2)) then
 (m_strconv_Itoa fuel x1.n).bind fun v18 =>
 some v18
 else
 m_impl_formText_l3 fuel x1 ([] : List ByteArray) 0))
def m_impl_formText_l2 (fuel : Nat) (x1 : Form) (g3 : (List ByteArray)) (g4 : Int) : Option ByteArray :=
 match fuel with
 | 0 => none
 | fuel + 1 =>
 (bif (decide (g4 < (x1.scopes.length : Int))) then
 (idx x1.scopes g4).bind fun v8 =>
 (m_strconv_Itoa fuel v8).bind fun v9 =>
 chk (decide ((g3.length + [v9].length) * 16 ≤ 140737488355328)) <|
 m_impl_formText_l2 fuel x1 (g3 ++ [v9]) (g4 + 1)
 else
 m_impl_formText_j1 fuel x1 g3)
def m_impl_formText_j1 (fuel : Nat) (x1 : Form) (g11 : (List ByteArray)) : Option ByteArray :=
 match fuel with
 | 0 => none
 | fuel + 1 =>
 (bcat x1.name (⟨#[123]⟩ : ByteArray)).bind fun v13 =>
 (m_strings_Join fuel g11 (⟨#[44]⟩ : ByteArray)).bind fun v14 =>
 (bcat v13 v14).bind fun v15 =>
 (bcat v15 (⟨#[125]⟩ : ByteArray)).bind fun v16 =>
 some v16
def m_impl_formText_l3 (fuel : Nat) (x1 : Form) (g19 : (List ByteArray)) (g20 : Int) : Option ByteArray :=
 match fuel with
 | 0 => none
 | fuel + 1 =>
 (bif (decide (g20 < (x1.kids.length : Int))) then
 (idx x1.kids g20).bind fun v24 =>
 (m_impl_formText fuel v24).bind fun v25 =>
 chk (decide ((g19.length + [v25].length) * 16 ≤ 140737488355328)) <|
 m_impl_formText_l3 fuel x1 (g19 ++ [v25]) (g20 + 1)
 else
 (m_strings_Join fuel g19 (⟨#[32]⟩ : ByteArray)).bind fun v27 =>
 (bcat (⟨#[40]⟩ : ByteArray) v27).bind fun v28 =>
 (bcat v28 (⟨#[41]⟩ : ByteArray)).bind fun v29 =>
 some v29)
end
mutual
def m_impl_coreText (fuel : Nat) (x1 : Core) : Option ByteArray :=
 match fuel with
 | 0 => none
 | fuel + 1 =>
 m_impl_coreText_l2 fuel x1 ([] : List ByteArray) 0
def m_impl_coreText_l2 (fuel : Nat) (x1 : Core) (g1 : (List ByteArray)) (g2 : Int) : Option ByteArray :=
 match fuel with
 | 0 => none
 | fuel + 1 =>
 (bif (decide (g2 < (x1.kids.length : Int))) then
 (idx x1.kids g2).bind fun v6 =>
 (m_impl_coreText fuel v6).bind fun v7 =>
 chk (decide ((g1.length + [v7].length) * 16 ≤ 140737488355328)) <|
 m_impl_coreText_l2 fuel x1 (g1 ++ [v7]) (g2 + 1)
 else
 m_impl_coreText_j1 fuel x1 g1)
def m_impl_coreText_l4 (fuel : Nat) (x1 : Core) (v11 : ByteArray) (g22 : (List ByteArray)) (g23 : Int) : Option ByteArray :=
 match fuel with
 | 0 => none
 | fuel + 1 =>
 (bif (decide (g23 < (x1.ids.length : Int))) then
 (idx x1.ids g23).bind fun v27 =>
 (m_strconv_Itoa fuel v27).bind fun v28 =>
 (bcat (⟨#[35]⟩ : ByteArray) v28).bind fun v29 =>
 chk (decide ((g22.length + [v29].length) * 16 ≤ 140737488355328)) <|
 m_impl_coreText_l4 fuel x1 v11 (g22 ++ [v29]) (g23 + 1)
 else
 m_impl_coreText_j3 fuel v11 g22)
def m_impl_coreText_j3 (fuel : Nat) (v11 : ByteArray) (g31 : (List ByteArray)) : Option ByteArray :=
 match fuel with
 | 0 => none
 | fuel + 1 =>
 (m_strings_Join fuel g31 (⟨#[32]⟩ : ByteArray)).bind fun v33 =>
 (bcat (⟨#[40, 102, 117, 110, 32, 40]⟩ : ByteArray) v33).bind fun v34 =>
 (bcat v34 (⟨#[41, 32]⟩ : ByteArray)).bind fun v35 =>
 (bcat v35 v11).bind fun v36 =>
 (bcat v36 (⟨#[41]⟩ : ByteArray)).bind fun v37 =>
 some v37
def m_impl_coreText_j1 (fuel : Nat) (x1 : Core) (g9 : (List ByteArray)) : Option ByteArray :=
 match fuel with
 | 0 => none
 | fuel + 1 =>
 (m_strings_Join fuel g9 (⟨#[32]⟩ : ByteArray)).bind fun v11 =>
 (bif (decide (x1.kind = 1)) then
 (m_strconv_Itoa fuel x1.id).bind fun v13 =>
 (bcat (⟨#[35]⟩ : ByteArray) v13).bind fun v14 =>
 some v14
 else
 (bif (decide (x1.kind = 2)) then
 some x1.name
 else
 (bif (decide (x1.kind = 3)) then
 (m_strconv_Itoa fuel x1.n).bind fun v17 =>
 some v17
 else
 (bif (decide (x1.kind = 4)) then
 (m_impl_formText fuel x1.data).bind fun v19 =>
 (bcat (⟨#[39]⟩ : ByteArray) v19).bind fun v20 =>
 some v20
 else
 (bif (decide (x1.kind = 5)) then
 m_impl_coreText_l4 fuel x1 v11 ([] : List ByteArray) 0
 else
 (bif (decide (x1.kind = 6)) then
 (bcat (⟨#[40]⟩ : ByteArray) v11).bind fun v39 =>
 (bcat v39 (⟨#[41]⟩ : ByteArray)).bind fun v40 =>
 some v40
 else
 (bcat (⟨#[40, 105, 102, 32]⟩ : ByteArray) v11).bind fun v41 =>
 (bcat v41 (⟨#[41]⟩ : ByteArray)).bind fun v42 =>
 some v42))))))
end
def m_impl_FormatCore (fuel : Nat) (x1 : Core) : Option ByteArray :=
 (m_impl_CoreValid fuel x1).bind fun v1 =>
 (bif (!v1) then
 some (⟨#[]⟩ : ByteArray)
 else
 (m_impl_coreText fuel x1).bind fun v3 =>
 some v3)
def m_spec_DrawFormatCore (fuel : Nat) (x1 : (List Int)) : Option Core :=
 (m_spec_l6Draw fuel x1).bind fun v1 =>
 some v1
mutual
def m_laws_FnCoreBrackets_j4 (fuel : Nat) (v4 : ByteArray) (g12 : Int) (g21 : Int) : Option Bool :=
 match fuel with
 | 0 => none
 | fuel + 1 =>
 (bif (decide (g21 < 0)) then
 some false
 else
 m_laws_FnCoreBrackets_l2 fuel v4 g21 (w64 (g12 + 1)))
def m_laws_FnCoreBrackets_j3 (fuel : Nat) (v4 : ByteArray) (g12 : Int) (g17 : Int) : Option Bool :=
 match fuel with
 | 0 => none
 | fuel + 1 =>
 (bidx v4 g12).bind fun v19 =>
 (bif (decide (v19 = 41)) then
 m_laws_FnCoreBrackets_j4 fuel v4 g12 (w64 (g17 - 1))
 else
 m_laws_FnCoreBrackets_j4 fuel v4 g12 g17)
def m_laws_FnCoreBrackets_l2 (fuel : Nat) (v4 : ByteArray) (g11 : Int) (g12 : Int) : Option Bool :=
 match fuel with
 | 0 => none
 | fuel + 1 =>
 (bif (decide (g12 < (v4.size : Int))) then
 (bidx v4 g12).bind fun v15 =>
 (bif (decide (v15 = 40)) then
 m_laws_FnCoreBrackets_j3 fuel v4 g12 (w64 (g11 + 1))
 else
 m_laws_FnCoreBrackets_j3 fuel v4 g12 g11)
 else
 some (decide (g11 = 0)))
def m_laws_FnCoreBrackets_j1 (fuel : Nat) (v4 : ByteArray) (g8 : Bool) : Option Bool :=
 match fuel with
 | 0 => none
 | fuel + 1 =>
 (bif g8 then
 some false
 else
 m_laws_FnCoreBrackets_l2 fuel v4 0 0)
end
def m_laws_FnCoreBrackets (fuel : Nat) (x1 : (List Int)) : Option Bool :=
 (bif (decide (1048576 < (x1.length : Int))) then
 some true
 else
 (m_spec_DrawFormatCore fuel x1).bind fun v3 =>
 (m_impl_FormatCore fuel v3).bind fun v4 =>
 (m_spec_FormatCore fuel v3).bind fun v5 =>
 (bif (decide (v4 ≠ v5)) then
 m_laws_FnCoreBrackets_j1 fuel v4 true
 else
 (m_impl_CoreValid fuel v3).bind fun v7 =>
 m_laws_FnCoreBrackets_j1 fuel v4 (decide ((decide (v4 ≠ (⟨#[]⟩ : ByteArray))) ≠ v7))))
end Go.Abs
