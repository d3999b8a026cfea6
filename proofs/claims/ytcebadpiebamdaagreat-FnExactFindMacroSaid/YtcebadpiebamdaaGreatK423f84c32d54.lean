/- A part of the proof: what the functions that the law calls answer, as pure values. -/
import Derived.Test.YtcebadpiebamdaaGreatK3c12e1c5a40a
set_option linter.unusedSimpArgs false
set_option linter.unusedVariables false
set_option maxHeartbeats 4000000
namespace Go.Abs
def zeN (fuel : Nat) (x1 : (List Int)) (x2 : Int) : Option Int :=
 (bif (decide ((w64 (x2 - (x1.length : Int))) < 0)) then
 some (-1)
 else
 some (w64 (x2 - (x1.length : Int))))
mutual
def zcq (fuel : Nat) (x1 : Form) (x2 : Int) : Option Int :=
 match fuel with
 | 0 => none
 | fuel + 1 =>
 (bif (decide ((w64 (x2 - (x1.name.size : Int))) < 0)) then
 some (-1)
 else
 (zeN fuel x1.scopes (w64 (x2 - (x1.name.size : Int)))).bind fun v2 =>
 (bif (decide (v2 < 0)) then
 some (-1)
 else
 (zcU fuel x1.kids v2).bind fun v4 =>
 (bif (decide (v4 < 0)) then
 some (-1)
 else
 some v4)))
def zcU (fuel : Nat) (x1 : (List Form)) (x2 : Int) : Option Int :=
 match fuel with
 | 0 => none
 | fuel + 1 =>
 (bif (decide ((w64 (x2 - (x1.length : Int))) < 0)) then
 some (-1)
 else
 zaK fuel x1 (w64 (x2 - (x1.length : Int))) 0)
def zaK (fuel : Nat) (x1 : (List Form)) (g2 : Int) (g3 : Int) : Option Int :=
 match fuel with
 | 0 => none
 | fuel + 1 =>
 (bif (decide (g3 < (x1.length : Int))) then
 (idx x1 g3).bind fun v7 =>
 (zcq fuel v7 g2).bind fun v8 =>
 (bif (decide (v8 < 0)) then
 some (-1)
 else
 zaK fuel x1 v8 (g3 + 1))
 else
 some g2)
end
def zbA (fuel : Nat) (x1 : (List Int)) (g2 : Int) (g3 : (List Int)) : Option (List Int) :=
 match fuel with
 | 0 => none
 | fuel + 1 =>
 (bif (decide (g2 < (x1.length : Int))) then
 (idx x1 g2).bind fun v7 =>
 (idx g3 g2).bind fun v8 =>
 zbA fuel x1 (g2 + 1) (g3.set g2.toNat v7)
 else
 some g3)
def zdi (fuel : Nat) (x1 : (List Int)) : Option (List Int) :=
 chk (decide (0 ≤ (x1.length : Int)) && decide ((x1.length : Int).toNat * 8 ≤ 140737488355328)) <|
 zbA fuel x1 0 (List.replicate (x1.length : Int).toNat 0)
mutual
def zbg (fuel : Nat) (x1 : Form) : Option Form :=
 match fuel with
 | 0 => none
 | fuel + 1 =>
 (zdi fuel x1.scopes).bind fun v1 =>
 (zbQ fuel x1.kids).bind fun v2 =>
 some (Form.mk x1.kind x1.name x1.n v1 v2)
def zbQ (fuel : Nat) (x1 : (List Form)) : Option (List Form) :=
 match fuel with
 | 0 => none
 | fuel + 1 =>
 chk (decide (0 ≤ (x1.length : Int)) && decide ((x1.length : Int).toNat * 80 ≤ 140737488355328)) <|
 zaB fuel x1 0 (List.replicate (x1.length : Int).toNat (Form.mk 0 (⟨#[]⟩ : ByteArray) 0 ([] : List Int) ([] : List Form)))
def zaB (fuel : Nat) (x1 : (List Form)) (g2 : Int) (g3 : (List Form)) : Option (List Form) :=
 match fuel with
 | 0 => none
 | fuel + 1 =>
 (bif (decide (g2 < (x1.length : Int))) then
 (idx x1 g2).bind fun v7 =>
 (zbg fuel v7).bind fun v8 =>
 (idx g3 g2).bind fun v9 =>
 zaB fuel x1 (g2 + 1) (g3.set g2.toNat v8)
 else
 some g3)
end
def zev (fuel : Nat) (x1 : Int) (x2 : Bool) : Option Bool :=
 (bif (decide (97 ≤ x1)) then
 (bif (decide (x1 ≤ 122)) then
 some true
 else
 (bif (decide (x1 = 42)) then
 some true
 else
 (bif (decide (x1 = 63)) then
 some true
 else
 (bif (decide (x1 = 61)) then
 some true
 else
 (bif (decide (x1 = 43)) then
 some true
 else
 (bif (decide (x1 = 60)) then
 some true
 else
 (bif (!x2) then
 (bif (decide (48 ≤ x1)) then
 (bif (decide (x1 ≤ 57)) then
 some true
 else
 some (decide (x1 = 45)))
 else
 some (decide (x1 = 45)))
 else
 some false)))))))
 else
 (bif (decide (x1 = 42)) then
 some true
 else
 (bif (decide (x1 = 63)) then
 some true
 else
 (bif (decide (x1 = 61)) then
 some true
 else
 (bif (decide (x1 = 43)) then
 some true
 else
 (bif (decide (x1 = 60)) then
 some true
 else
 (bif (!x2) then
 (bif (decide (48 ≤ x1)) then
 (bif (decide (x1 ≤ 57)) then
 some true
 else
 some (decide (x1 = 45)))
 else
 some (decide (x1 = 45)))
 else
 some false)))))))
def zbn (fuel : Nat) (x1 : ByteArray) (g3 : Int) : Option Bool :=
 match fuel with
 | 0 => none
 | fuel + 1 =>
 (bif (decide (g3 < (x1.size : Int))) then
 (bif (decide (g3 ≤ 12)) then
 (bidx x1 g3).bind fun v7 =>
 (zev fuel v7 (decide (g3 = 0))).bind fun v8 =>
 (bif (!v8) then
 some false
 else
 zbn fuel x1 (w64 (g3 + 1)))
 else
 (bif (decide (1 ≤ (x1.size : Int))) then
 some (decide ((x1.size : Int) ≤ 12))
 else
 some false))
 else
 (bif (decide (1 ≤ (x1.size : Int))) then
 some (decide ((x1.size : Int) ≤ 12))
 else
 some false))
def zc9 (fuel : Nat) (x1 : ByteArray) : Option Bool :=
 (bif (decide (x1 = (⟨#[46, 46, 46]⟩ : ByteArray))) then
 some true
 else
 (bif (decide (x1 = (⟨#[95]⟩ : ByteArray))) then
 some true
 else
 zbn fuel x1 0))
def zbc (fuel : Nat) (x1 : (List Int)) (g1 : Int) : Option Bool :=
 match fuel with
 | 0 => none
 | fuel + 1 =>
 (bif (decide (g1 < (x1.length : Int))) then
 (bif (decide (g1 ≤ 24)) then
 (idx x1 g1).bind fun v5 =>
 (bif (decide (v5 < 1)) then
 some false
 else
 (idx x1 g1).bind fun v7 =>
 (bif (decide (99 < v7)) then
 some false
 else
 (bif (decide (0 < g1)) then
 (idx x1 g1).bind fun v10 =>
 (idx x1 (w64 (g1 - 1))).bind fun v11 =>
 (bif (decide (v10 ≤ v11)) then
 some false
 else
 zbc fuel x1 (w64 (g1 + 1)))
 else
 zbc fuel x1 (w64 (g1 + 1)))))
 else
 some (decide ((x1.length : Int) ≤ 24)))
 else
 some (decide ((x1.length : Int) ≤ 24)))
def zdI (fuel : Nat) (x1 : (List Int)) : Option Bool :=
 zbc fuel x1 0
mutual
def zew (fuel : Nat) (x1 : Form) (x2 : Int) : Option Bool :=
 match fuel with
 | 0 => none
 | fuel + 1 =>
 (bif (decide (x2 = 0)) then
 some false
 else
 (bif (decide (x1.kind = 1)) then
 (zc9 fuel x1.name).bind fun v3 =>
 (bif v3 then
 (bif (decide (x1.n = 0)) then
 (zdI fuel x1.scopes).bind fun v6 =>
 (bif v6 then
 some (decide ((x1.kids.length : Int) = 0))
 else
 some false)
 else
 some false)
 else
 some false)
 else
 (bif (decide (x1.kind = 2)) then
 (bif (decide (x1.name = (⟨#[]⟩ : ByteArray))) then
 (bif (decide (0 ≤ x1.n)) then
 (bif (decide (x1.n ≤ 999)) then
 (bif (decide ((x1.scopes.length : Int) = 0)) then
 some (decide ((x1.kids.length : Int) = 0))
 else
 some false)
 else
 some false)
 else
 some false)
 else
 some false)
 else
 (bif (decide (x1.kind ≠ 3)) then
 some false
 else
 (bif (decide (x1.name ≠ (⟨#[]⟩ : ByteArray))) then
 some false
 else
 (bif (decide (x1.n ≠ 0)) then
 some false
 else
 (bif (decide ((x1.scopes.length : Int) ≠ 0)) then
 some false
 else
 zdw fuel x1 x2 0)))))))
def zdw (fuel : Nat) (x1 : Form) (x2 : Int) (g17 : Int) : Option Bool :=
 match fuel with
 | 0 => none
 | fuel + 1 =>
 (bif (decide (g17 < (x1.kids.length : Int))) then
 (idx x1.kids g17).bind fun v21 =>
 (zew fuel v21 (w64 (x2 - 1))).bind fun v22 =>
 (bif (!v22) then
 some false
 else
 zdw fuel x1 x2 (g17 + 1))
 else
 some true)
end
mutual
def zdx (fuel : Nat) (x1 : Form) : Option Int :=
 match fuel with
 | 0 => none
 | fuel + 1 =>
 zbY fuel x1 1 0
def zbY (fuel : Nat) (x1 : Form) (g1 : Int) (g2 : Int) : Option Int :=
 match fuel with
 | 0 => none
 | fuel + 1 =>
 (bif (decide (g2 < (x1.kids.length : Int))) then
 (idx x1.kids g2).bind fun v6 =>
 (zdx fuel v6).bind fun v7 =>
 zbY fuel x1 (w64 (g1 + v7)) (g2 + 1)
 else
 some g1)
end
def zcD (fuel : Nat) (x1 : Form) : Option Bool :=
 (zew fuel x1 40).bind fun v1 =>
 (bif v1 then
 (zdx fuel x1).bind fun v3 =>
 some (decide (v3 ≤ 400))
 else
 some false)
def zgy (fuel : Nat) (x1 : Form) : Option Bool :=
 (bif (decide (x1.kind = 1)) then
 (zcD fuel x1).bind fun v2 =>
 some v2
 else
 some false)
def zcC (fuel : Nat) (x1 : (List Int)) (x2 : (List Int)) (g2 : Int) : Option Bool :=
 match fuel with
 | 0 => none
 | fuel + 1 =>
 (bif (decide (g2 < (x1.length : Int))) then
 (idx x1 g2).bind fun v6 =>
 (idx x2 g2).bind fun v7 =>
 (bif (decide (v6 ≠ v7)) then
 some false
 else
 zcC fuel x1 x2 (g2 + 1))
 else
 some true)
def zeK (fuel : Nat) (x1 : (List Int)) (x2 : (List Int)) : Option Bool :=
 (bif (decide ((x1.length : Int) ≠ (x2.length : Int))) then
 some false
 else
 zcC fuel x1 x2 0)
mutual
def zbo (fuel : Nat) (x1 : Form) (x2 : Form) : Option Bool :=
 match fuel with
 | 0 => none
 | fuel + 1 =>
 (bif (decide (x1.kind ≠ x2.kind)) then
 some false
 else
 (bif (decide (x1.name ≠ x2.name)) then
 some false
 else
 (bif (decide (x1.n ≠ x2.n)) then
 some false
 else
 (zeK fuel x1.scopes x2.scopes).bind fun v4 =>
 (bif (!v4) then
 some false
 else
 (bif (decide ((x1.kids.length : Int) ≠ (x2.kids.length : Int))) then
 some false
 else
 zb5 fuel x1 x2 0)))))
def zb5 (fuel : Nat) (x1 : Form) (x2 : Form) (g7 : Int) : Option Bool :=
 match fuel with
 | 0 => none
 | fuel + 1 =>
 (bif (decide (g7 < (x1.kids.length : Int))) then
 (idx x1.kids g7).bind fun v11 =>
 (idx x2.kids g7).bind fun v12 =>
 (zbo fuel v11 v12).bind fun v13 =>
 (bif (!v13) then
 some false
 else
 zb5 fuel x1 x2 (g7 + 1))
 else
 some true)
end
def zbT (fuel : Nat) (x1 : Form) : Option Bool :=
 (bif (decide (x1.kind = 1)) then
 some (decide (x1.name = (⟨#[46, 46, 46]⟩ : ByteArray)))
 else
 some false)
def zcB (fuel : Nat) (x1 : (List Hit)) (x2 : Form) (g1 : Int) : Option Int :=
 match fuel with
 | 0 => none
 | fuel + 1 =>
 (bif (decide (g1 < (x1.length : Int))) then
 (idx x1 g1).bind fun v5 =>
 (zbo fuel v5.name x2).bind fun v6 =>
 (bif v6 then
 some g1
 else
 zcB fuel x1 x2 (g1 + 1))
 else
 some (-1))
def zgq (fuel : Nat) (x1 : (List Hit)) (x2 : Form) : Option Int :=
 zcB fuel x1 x2 0
def zek (fuel : Nat) (x1 : (List Hit)) (x2 : Form) : Option Int :=
 (bif (decide (x2.kind ≠ 1)) then
 some (-1)
 else
 (zgq fuel x1 x2).bind fun v2 =>
 (bif (decide (v2 < 0)) then
 some (-1)
 else
 (idx x1 v2).bind fun v4 =>
 some v4.depth))
mutual
def zdV (fuel : Nat) (x1 : (List Hit)) (x2 : Form) : Option Bool :=
 match fuel with
 | 0 => none
 | fuel + 1 =>
 (zek fuel x1 x2).bind fun v1 =>
 (bif (decide (0 < v1)) then
 some true
 else
 zcc fuel x1 x2 0)
def zcc (fuel : Nat) (x1 : (List Hit)) (x2 : Form) (g3 : Int) : Option Bool :=
 match fuel with
 | 0 => none
 | fuel + 1 =>
 (bif (decide (g3 < (x2.kids.length : Int))) then
 (idx x2.kids g3).bind fun v7 =>
 (zdV fuel x1 v7).bind fun v8 =>
 (bif v8 then
 some true
 else
 zcc fuel x1 x2 (g3 + 1))
 else
 some false)
end
def zbR (fuel : Nat) (x1 : (List Hit)) (g1 : (List Hit)) (g2 : Int) : Option (List Hit) :=
 match fuel with
 | 0 => none
 | fuel + 1 =>
 (bif (decide (g2 < (x1.length : Int))) then
 (idx x1 g2).bind fun v6 =>
 (idx x1 g2).bind fun v7 =>
 (idx x1 g2).bind fun v8 =>
 (bif (decide (0 < v7.depth)) then
 chk (decide ((g1.length + [(Hit.mk v6.name (w64 (v7.depth - 1)) v8.one ([] : List Hit))].length) * 192 ≤ 140737488355328)) <|
 zbR fuel x1 (g1 ++ [(Hit.mk v6.name (w64 (v7.depth - 1)) v8.one ([] : List Hit))]) (g2 + 1)
 else
 chk (decide ((g1.length + [(Hit.mk v6.name v7.depth v8.one ([] : List Hit))].length) * 192 ≤ 140737488355328)) <|
 zbR fuel x1 (g1 ++ [(Hit.mk v6.name v7.depth v8.one ([] : List Hit))]) (g2 + 1))
 else
 some g1)
def zfC (fuel : Nat) (x1 : (List Hit)) : Option (List Hit) :=
 zbR fuel x1 ([] : List Hit) 0
mutual
def zdu (fuel : Nat) (x1 : Form) (x2 : (List Hit)) : Option Bool :=
 match fuel with
 | 0 => none
 | fuel + 1 =>
 (zbT fuel x1).bind fun v1 =>
 (bif v1 then
 some false
 else
 (zek fuel x2 x1).bind fun v3 =>
 (bif (decide (0 < v3)) then
 some false
 else
 zbz fuel x1 x2 0))
def zbz (fuel : Nat) (x1 : Form) (x2 : (List Hit)) (g5 : Int) : Option Bool :=
 match fuel with
 | 0 => none
 | fuel + 1 =>
 (bif (decide (g5 < (x1.kids.length : Int))) then
 (idx x1.kids g5).bind fun v9 =>
 (zbT fuel v9).bind fun v10 =>
 (bif v10 then
 (bif (decide (g5 = 0)) then
 some false
 else
 (idx x1.kids (w64 (g5 - 1))).bind fun v13 =>
 (zbT fuel v13).bind fun v14 =>
 (bif v14 then
 some false
 else
 zbz fuel x1 x2 (g5 + 1)))
 else
 (bif (decide ((g5 + 1) < (x1.kids.length : Int))) then
 (idx x1.kids (g5 + 1)).bind fun v17 =>
 (zbT fuel v17).bind fun v18 =>
 (bif v18 then
 (idx x1.kids g5).bind fun v20 =>
 (zdV fuel x2 v20).bind fun v21 =>
 (bif (!v21) then
 some false
 else
 (idx x1.kids g5).bind fun v23 =>
 (zfC fuel x2).bind fun v24 =>
 (zdu fuel v23 v24).bind fun v25 =>
 (bif (!v25) then
 some false
 else
 zbz fuel x1 x2 (g5 + 1)))
 else
 (idx x1.kids g5).bind fun v27 =>
 (zdu fuel v27 x2).bind fun v28 =>
 (bif (!v28) then
 some false
 else
 zbz fuel x1 x2 (g5 + 1)))
 else
 (idx x1.kids g5).bind fun v30 =>
 (zdu fuel v30 x2).bind fun v31 =>
 (bif (!v31) then
 some false
 else
 zbz fuel x1 x2 (g5 + 1))))
 else
 some true)
end
def zdU (fuel : Nat) (x1 : ByteArray) (x2 : Int) : Option Int :=
 some (Lib.indexByte x1.data.toList x2.toNat.toUInt8)
def zbH (fuel : Nat) (x1 : Int) (x2 : Int) (x3 : Int) : Option Bool :=
 (bif (decide (x2 ≤ x1)) then
 some (decide (x1 ≤ x3))
 else
 some false)
def zO (fuel : Nat) (x1 : ByteArray) (g3 : Int) : Option Bool :=
 match fuel with
 | 0 => none
 | fuel + 1 =>
 (bif (decide (g3 < (x1.size : Int))) then
 (bidx x1 g3).bind fun v6 =>
 (bif (decide (97 ≤ v6)) then
 (bif (decide (v6 ≤ 122)) then
 zO fuel x1 (w64 (g3 + 1))
 else
 (zdU fuel (⟨#[42, 63, 61, 43, 60]⟩ : ByteArray) v6).bind fun v9 =>
 (bif (decide (0 ≤ v9)) then
 zO fuel x1 (w64 (g3 + 1))
 else
 (bif (decide (0 < g3)) then
 (bif (decide (48 ≤ v6)) then
 (bif (decide (v6 ≤ 57)) then
 zO fuel x1 (w64 (g3 + 1))
 else
 (bif (decide (v6 = 45)) then
 zO fuel x1 (w64 (g3 + 1))
 else
 some false))
 else
 (bif (decide (v6 = 45)) then
 zO fuel x1 (w64 (g3 + 1))
 else
 some false))
 else
 some false)))
 else
 (zdU fuel (⟨#[42, 63, 61, 43, 60]⟩ : ByteArray) v6).bind fun v16 =>
 (bif (decide (0 ≤ v16)) then
 zO fuel x1 (w64 (g3 + 1))
 else
 (bif (decide (0 < g3)) then
 (bif (decide (48 ≤ v6)) then
 (bif (decide (v6 ≤ 57)) then
 zO fuel x1 (w64 (g3 + 1))
 else
 (bif (decide (v6 = 45)) then
 zO fuel x1 (w64 (g3 + 1))
 else
 some false))
 else
 (bif (decide (v6 = 45)) then
 zO fuel x1 (w64 (g3 + 1))
 else
 some false))
 else
 some false)))
 else
 (zbH fuel (x1.size : Int) 1 12).bind fun v23 =>
 some v23)
def zdc (fuel : Nat) (x1 : ByteArray) : Option Bool :=
 (bif (decide (x1 = (⟨#[46, 46, 46]⟩ : ByteArray))) then
 some true
 else
 (bif (decide (x1 = (⟨#[95]⟩ : ByteArray))) then
 some true
 else
 zO fuel x1 0))
def zbi (fuel : Nat) (x1 : (List Int)) (g1 : Int) : Option Bool :=
 match fuel with
 | 0 => none
 | fuel + 1 =>
 (bif (decide (g1 < (x1.length : Int))) then
 (idx x1 g1).bind fun v5 =>
 (zbH fuel v5 1 99).bind fun v6 =>
 (bif (!v6) then
 some false
 else
 (bif (decide (0 < g1)) then
 (idx x1 (w64 (g1 - 1))).bind fun v9 =>
 (bif (decide (v5 ≤ v9)) then
 some false
 else
 zbi fuel x1 (g1 + 1))
 else
 zbi fuel x1 (g1 + 1)))
 else
 some (decide ((x1.length : Int) ≤ 24)))
def zdQ (fuel : Nat) (x1 : (List Int)) : Option Bool :=
 zbi fuel x1 0
mutual
def zd0 (fuel : Nat) (x1 : Form) (x2 : Int) (o1 : Int) : Option (Bool × Int) :=
 match fuel with
 | 0 => none
 | fuel + 1 =>
 (bif (decide ((w64 (o1 - 1)) < 0)) then
 some (false, (w64 (o1 - 1)))
 else
 (bif (decide (40 < x2)) then
 some (false, (w64 (o1 - 1)))
 else
 (bif (decide (x1.kind = 1)) then
 (zdc fuel x1.name).bind fun v4 =>
 (bif v4 then
 (bif (decide (x1.n = 0)) then
 (zdQ fuel x1.scopes).bind fun v7 =>
 (bif v7 then
 some ((decide ((x1.kids.length : Int) = 0)), (w64 (o1 - 1)))
 else
 some (false, (w64 (o1 - 1))))
 else
 some (false, (w64 (o1 - 1))))
 else
 some (false, (w64 (o1 - 1))))
 else
 (bif (decide (x1.kind = 2)) then
 (bif (decide (x1.name = (⟨#[]⟩ : ByteArray))) then
 (zbH fuel x1.n 0 999).bind fun v11 =>
 (bif v11 then
 (bif (decide ((x1.scopes.length : Int) = 0)) then
 some ((decide ((x1.kids.length : Int) = 0)), (w64 (o1 - 1)))
 else
 some (false, (w64 (o1 - 1))))
 else
 some (false, (w64 (o1 - 1))))
 else
 some (false, (w64 (o1 - 1))))
 else
 (bif (decide (x1.kind = 3)) then
 (bif (decide (x1.name ≠ (⟨#[]⟩ : ByteArray))) then
 some (false, (w64 (o1 - 1)))
 else
 (bif (decide (x1.n ≠ 0)) then
 some (false, (w64 (o1 - 1)))
 else
 (bif (decide (0 < (x1.scopes.length : Int))) then
 some (false, (w64 (o1 - 1)))
 else
 zcf fuel x1 x2 0 (w64 (o1 - 1)))))
 else
 some (false, (w64 (o1 - 1))))))))
def zcf (fuel : Nat) (x1 : Form) (x2 : Int) (g19 : Int) (g20 : Int) : Option (Bool × Int) :=
 match fuel with
 | 0 => none
 | fuel + 1 =>
 (bif (decide (g19 < (x1.kids.length : Int))) then
 (idx x1.kids g19).bind fun v24 =>
 (zd0 fuel v24 (w64 (x2 + 1)) g20).bind fun v25 =>
 (bif (!v25.1) then
 some (false, v25.2)
 else
 zcf fuel x1 x2 (g19 + 1) v25.2)
 else
 some (true, g20))
end
def zcG (fuel : Nat) (x1 : Form) : Option Bool :=
 (zd0 fuel x1 1 400).bind fun v1 =>
 some v1.1
def zdq (fuel : Nat) (x1 : Form) : Option Bool :=
 (bif (decide (x1.kind = 1)) then
 (zcG fuel x1).bind fun v2 =>
 some v2
 else
 some false)
def zbr (fuel : Nat) (x1 : (List Int)) (x2 : (List Int)) (g2 : Int) : Option Bool :=
 match fuel with
 | 0 => none
 | fuel + 1 =>
 (bif (decide (g2 < (x1.length : Int))) then
 (idx x1 g2).bind fun v6 =>
 (idx x2 g2).bind fun v7 =>
 (bif (decide (v6 ≠ v7)) then
 some false
 else
 zbr fuel x1 x2 (g2 + 1))
 else
 some true)
def zcy (fuel : Nat) (x1 : (List Int)) (x2 : (List Int)) : Option Bool :=
 (bif (decide ((x1.length : Int) ≠ (x2.length : Int))) then
 some false
 else
 zbr fuel x1 x2 0)
mutual
def zbx (fuel : Nat) (x1 : Form) (x2 : Form) : Option Bool :=
 match fuel with
 | 0 => none
 | fuel + 1 =>
 (bif (decide (x1.kind = x2.kind)) then
 (bif (decide (x1.name = x2.name)) then
 (bif (decide (x1.n = x2.n)) then
 (zcy fuel x1.scopes x2.scopes).bind fun v4 =>
 (bif v4 then
 (zaG fuel x1.kids x2.kids).bind fun v6 =>
 some v6
 else
 some false)
 else
 some false)
 else
 some false)
 else
 some false)
def zaG (fuel : Nat) (x1 : (List Form)) (x2 : (List Form)) : Option Bool :=
 match fuel with
 | 0 => none
 | fuel + 1 =>
 (bif (decide ((x1.length : Int) ≠ (x2.length : Int))) then
 some false
 else
 zW fuel x1 x2 0)
def zW (fuel : Nat) (x1 : (List Form)) (x2 : (List Form)) (g2 : Int) : Option Bool :=
 match fuel with
 | 0 => none
 | fuel + 1 =>
 (bif (decide (g2 < (x1.length : Int))) then
 (idx x1 g2).bind fun v6 =>
 (idx x2 g2).bind fun v7 =>
 (zbx fuel v6 v7).bind fun v8 =>
 (bif (!v8) then
 some false
 else
 zW fuel x1 x2 (g2 + 1))
 else
 some true)
end
def zce (fuel : Nat) (x1 : Form) (x2 : ByteArray) : Option Bool :=
 (bif (decide (x1.kind = 1)) then
 some (decide (x1.name = x2))
 else
 some false)
def zeE (fuel : Nat) (x1 : Form) : Option Bool :=
 (zce fuel x1 (⟨#[46, 46, 46]⟩ : ByteArray)).bind fun v1 =>
 some v1
def zV (fuel : Nat) (x1 : (List Form)) (g1 : Int) : Option Int :=
 match fuel with
 | 0 => none
 | fuel + 1 =>
 (bif (decide (g1 < (x1.length : Int))) then
 (idx x1 g1).bind fun v5 =>
 (zeE fuel v5).bind fun v6 =>
 (bif v6 then
 some g1
 else
 zV fuel x1 (g1 + 1))
 else
 some (-1))
def zbk (fuel : Nat) (x1 : (List Form)) : Option Int :=
 zV fuel x1 0
def zfJ (fuel : Nat) (x1 : (List Form)) : Option Int :=
 (zbk fuel x1).bind fun v1 =>
 some v1
mutual
def zcP (fuel : Nat) (x1 : Form) (x2 : Bool) : Option Bool :=
 match fuel with
 | 0 => none
 | fuel + 1 =>
 zbB fuel x1 x2 0
def zbB (fuel : Nat) (x1 : Form) (x2 : Bool) (g1 : Int) : Option Bool :=
 match fuel with
 | 0 => none
 | fuel + 1 =>
 (bif (decide (g1 < (x1.kids.length : Int))) then
 (idx x1.kids g1).bind fun v5 =>
 (zce fuel v5 (⟨#[46, 46, 46]⟩ : ByteArray)).bind fun v6 =>
 (bif v6 then
 (bif (decide (g1 = 0)) then
 some false
 else
 (idx x1.kids (w64 (g1 - 1))).bind fun v9 =>
 (zce fuel v9 (⟨#[46, 46, 46]⟩ : ByteArray)).bind fun v10 =>
 (bif v10 then
 some false
 else
 (bif x2 then
 (sub x1.kids 0 g1).bind fun v13 =>
 (zfJ fuel v13).bind fun v14 =>
 (bif (decide (0 ≤ v14)) then
 some false
 else
 zbB fuel x1 x2 (g1 + 1))
 else
 zbB fuel x1 x2 (g1 + 1))))
 else
 (zcP fuel v5 x2).bind fun v16 =>
 (bif (!v16) then
 some false
 else
 zbB fuel x1 x2 (g1 + 1)))
 else
 some true)
end
def zeg (fuel : Nat) (x1 : Form) (o1 : Form) : Option Bool :=
 (zbx fuel x1 o1).bind fun v1 =>
 some v1
def zT (fuel : Nat) (x1 : (List Form)) (o1 : Form) (g1 : Int) : Option Int :=
 match fuel with
 | 0 => none
 | fuel + 1 =>
 (bif (decide (g1 < (x1.length : Int))) then
 (idx x1 g1).bind fun v5 =>
 (zeg fuel v5 o1).bind fun v6 =>
 (bif v6 then
 some g1
 else
 zT fuel x1 o1 (g1 + 1))
 else
 some (-1))
def zbe (fuel : Nat) (x1 : (List Form)) (o1 : Form) : Option Int :=
 zT fuel x1 o1 0
def zeo (fuel : Nat) (x1 : (List Form)) (x2 : (List Int)) (x3 : Form) : Option Int :=
 (bif (decide (x3.kind ≠ 1)) then
 some (-1)
 else
 (zbe fuel x1 x3).bind fun v2 =>
 (bif (decide (v2 < 0)) then
 some (-1)
 else
 (idx x2 v2).bind fun v4 =>
 some v4))
def zfH (fuel : Nat) (x1 : Form) (o1 : Bool) (o2 : (List Form)) (o3 : (List Int)) (o4 : Int) : Option Bool :=
 (bif o1 then
 some true
 else
 (zeo fuel o2 o3 x1).bind fun v2 =>
 some (decide (o4 < v2)))
mutual
def zaL (fuel : Nat) (x1 : Form) (o1 : Bool) (o2 : (List Form)) (o3 : (List Int)) (o4 : Int) : Option Bool :=
 match fuel with
 | 0 => none
 | fuel + 1 =>
 (zfH fuel x1 o1 o2 o3 o4).bind fun v1 =>
 zah fuel x1 o2 o3 o4 0 v1
def zah (fuel : Nat) (x1 : Form) (o2 : (List Form)) (o3 : (List Int)) (o4 : Int) (g2 : Int) (g3 : Bool) : Option Bool :=
 match fuel with
 | 0 => none
 | fuel + 1 =>
 (bif (decide (g2 < (x1.kids.length : Int))) then
 (idx x1.kids g2).bind fun v7 =>
 (zaL fuel v7 g3 o2 o3 o4).bind fun v8 =>
 zah fuel x1 o2 o3 o4 (g2 + 1) v8
 else
 some g3)
end
mutual
def zcs (fuel : Nat) (x1 : Form) (x2 : (List Form)) (x3 : (List Int)) (x4 : Int) : Option Bool :=
 match fuel with
 | 0 => none
 | fuel + 1 =>
 (zeo fuel x2 x3 x1).bind fun v1 =>
 (bif (decide (x4 < v1)) then
 some false
 else
 zaJ fuel x1 x2 x3 x4 0)
def zaJ (fuel : Nat) (x1 : Form) (x2 : (List Form)) (x3 : (List Int)) (x4 : Int) (g3 : Int) : Option Bool :=
 match fuel with
 | 0 => none
 | fuel + 1 =>
 (bif (decide (g3 < (x1.kids.length : Int))) then
 (idx x1.kids g3).bind fun v7 =>
 (zce fuel v7 (⟨#[46, 46, 46]⟩ : ByteArray)).bind fun v8 =>
 (bif v8 then
 zaJ fuel x1 x2 x3 x4 (g3 + 1)
 else
 (bif (decide ((g3 + 1) < (x1.kids.length : Int))) then
 (idx x1.kids (g3 + 1)).bind fun v11 =>
 (zce fuel v11 (⟨#[46, 46, 46]⟩ : ByteArray)).bind fun v12 =>
 (bif v12 then
 (zaL fuel v7 false x2 x3 x4).bind fun v14 =>
 (bif (!v14) then
 some false
 else
 (zcs fuel v7 x2 x3 (w64 (x4 + 1))).bind fun v16 =>
 (bif (!v16) then
 some false
 else
 zaJ fuel x1 x2 x3 x4 (g3 + 1)))
 else
 (zcs fuel v7 x2 x3 x4).bind fun v18 =>
 (bif (!v18) then
 some false
 else
 zaJ fuel x1 x2 x3 x4 (g3 + 1)))
 else
 (zcs fuel v7 x2 x3 x4).bind fun v20 =>
 (bif (!v20) then
 some false
 else
 zaJ fuel x1 x2 x3 x4 (g3 + 1))))
 else
 some true)
end
def zdP (fuel : Nat) (x1 : Form) (x2 : (List Form)) (x3 : (List Int)) : Option Bool :=
 (zcG fuel x1).bind fun v1 =>
 (bif v1 then
 (zce fuel x1 (⟨#[46, 46, 46]⟩ : ByteArray)).bind fun v3 =>
 (bif (!v3) then
 (zcP fuel x1 false).bind fun v5 =>
 (bif v5 then
 (zcs fuel x1 x2 x3 0).bind fun v7 =>
 some v7
 else
 some false)
 else
 some false)
 else
 some false)
def zcE (fuel : Nat) (x1 : (List Int)) (x2 : (List Int)) (g2 : Int) : Option Bool :=
 match fuel with
 | 0 => none
 | fuel + 1 =>
 (bif (decide (g2 < (x1.length : Int))) then
 (idx x1 g2).bind fun v6 =>
 (idx x2 g2).bind fun v7 =>
 (bif (decide (v6 ≠ v7)) then
 some false
 else
 zcE fuel x1 x2 (g2 + 1))
 else
 some true)
def zeR (fuel : Nat) (x1 : (List Int)) (x2 : (List Int)) : Option Bool :=
 (bif (decide ((x1.length : Int) ≠ (x2.length : Int))) then
 some false
 else
 zcE fuel x1 x2 0)
mutual
def zb8 (fuel : Nat) (x1 : Form) (x2 : Form) : Option Bool :=
 match fuel with
 | 0 => none
 | fuel + 1 =>
 (bif (decide (x1.kind ≠ x2.kind)) then
 some false
 else
 (bif (decide (x1.name ≠ x2.name)) then
 some false
 else
 (bif (decide (x1.n ≠ x2.n)) then
 some false
 else
 (zeR fuel x1.scopes x2.scopes).bind fun v4 =>
 (bif (!v4) then
 some false
 else
 (zcV fuel x1.kids x2.kids).bind fun v6 =>
 (bif (!v6) then
 some false
 else
 some true)))))
def zcV (fuel : Nat) (x1 : (List Form)) (x2 : (List Form)) : Option Bool :=
 match fuel with
 | 0 => none
 | fuel + 1 =>
 (bif (decide ((x1.length : Int) ≠ (x2.length : Int))) then
 some false
 else
 zbG fuel x1 x2 0)
def zbG (fuel : Nat) (x1 : (List Form)) (x2 : (List Form)) (g2 : Int) : Option Bool :=
 match fuel with
 | 0 => none
 | fuel + 1 =>
 (bif (decide (g2 < (x1.length : Int))) then
 (idx x1 g2).bind fun v6 =>
 (idx x2 g2).bind fun v7 =>
 (zb8 fuel v6 v7).bind fun v8 =>
 (bif (!v8) then
 some false
 else
 zbG fuel x1 x2 (g2 + 1))
 else
 some true)
end
def zeM (fuel : Nat) (x1 : Rule) (x2 : Int) : Option Int :=
 (zcq fuel x1.pattern x2).bind fun v1 =>
 (bif (decide (v1 < 0)) then
 some (-1)
 else
 (zcq fuel x1.template v1).bind fun v3 =>
 (bif (decide (v3 < 0)) then
 some (-1)
 else
 some v3))
def zdh (fuel : Nat) (x1 : Rule) : Option Rule :=
 (zbg fuel x1.pattern).bind fun v1 =>
 (zbg fuel x1.template).bind fun v2 =>
 some (Rule.mk v1 v2)
def zcS (fuel : Nat) (x1 : (List Form)) (x2 : Form) (g1 : Int) : Option Bool :=
 match fuel with
 | 0 => none
 | fuel + 1 =>
 (bif (decide (g1 < (x1.length : Int))) then
 (idx x1 g1).bind fun v5 =>
 (zbo fuel v5 x2).bind fun v6 =>
 (bif v6 then
 some true
 else
 zcS fuel x1 x2 (g1 + 1))
 else
 some false)
def zfj (fuel : Nat) (x1 : (List Form)) (x2 : Form) : Option Bool :=
 zcS fuel x1 x2 0
def za4 (fuel : Nat) (x1 : (List Form)) (g1 : Int) : Option Bool :=
 match fuel with
 | 0 => none
 | fuel + 1 =>
 (bif (decide (g1 < (x1.length : Int))) then
 (bif (decide (g1 < 10)) then
 (idx x1 g1).bind fun v5 =>
 (zgy fuel v5).bind fun v6 =>
 (bif (!v6) then
 some false
 else
 (idx x1 g1).bind fun v8 =>
 (bif (decide (v8.name = (⟨#[46, 46, 46]⟩ : ByteArray))) then
 some false
 else
 (idx x1 g1).bind fun v10 =>
 (bif (decide (v10.name = (⟨#[95]⟩ : ByteArray))) then
 some false
 else
 (sub x1 0 g1).bind fun v12 =>
 (idx x1 g1).bind fun v13 =>
 (zfj fuel v12 v13).bind fun v14 =>
 (bif v14 then
 some false
 else
 za4 fuel x1 (w64 (g1 + 1))))))
 else
 some (decide ((x1.length : Int) < 10)))
 else
 some (decide ((x1.length : Int) < 10)))
def zcW (fuel : Nat) (x1 : (List Form)) : Option Bool :=
 za4 fuel x1 0
mutual
def zdv (fuel : Nat) (x1 : Form) : Option Bool :=
 match fuel with
 | 0 => none
 | fuel + 1 =>
 (zbT fuel x1).bind fun v1 =>
 (bif v1 then
 some false
 else
 zbF fuel x1 0 0)
def zbF (fuel : Nat) (x1 : Form) (g3 : Int) (g4 : Int) : Option Bool :=
 match fuel with
 | 0 => none
 | fuel + 1 =>
 (bif (decide (g4 < (x1.kids.length : Int))) then
 (idx x1.kids g4).bind fun v8 =>
 (zbT fuel v8).bind fun v9 =>
 (bif v9 then
 (bif (decide (g4 = 0)) then
 some false
 else
 (idx x1.kids (w64 (g4 - 1))).bind fun v12 =>
 (zbT fuel v12).bind fun v13 =>
 (bif v13 then
 some false
 else
 zbF fuel x1 (w64 (g3 + 1)) (g4 + 1)))
 else
 (idx x1.kids g4).bind fun v15 =>
 (zdv fuel v15).bind fun v16 =>
 (bif (!v16) then
 some false
 else
 zbF fuel x1 g3 (g4 + 1)))
 else
 some (decide (g3 ≤ 1)))
end
def zft (fuel : Nat) (x1 : Form) (x2 : (List Form)) : Option Bool :=
 (bif (decide (x1.kind = 1)) then
 (bif (decide (x1.name ≠ (⟨#[46, 46, 46]⟩ : ByteArray))) then
 (bif (decide (x1.name ≠ (⟨#[95]⟩ : ByteArray))) then
 (zfj fuel x2 x1).bind fun v4 =>
 some (!v4)
 else
 some false)
 else
 some false)
 else
 some false)
mutual
def zdf (fuel : Nat) (x1 : (List Form)) (x2 : Form) (x3 : (List Form)) : Option (List Form) :=
 match fuel with
 | 0 => none
 | fuel + 1 =>
 (zft fuel x2 x3).bind fun v1 =>
 (bif v1 then
 chk (decide ((x1.length + [x2].length) * 80 ≤ 140737488355328)) <|
 zaA fuel x2 x3 (x1 ++ [x2]) 0
 else
 zaA fuel x2 x3 x1 0)
def zaA (fuel : Nat) (x2 : Form) (x3 : (List Form)) (g4 : (List Form)) (g5 : Int) : Option (List Form) :=
 match fuel with
 | 0 => none
 | fuel + 1 =>
 (bif (decide (g5 < (x2.kids.length : Int))) then
 (idx x2.kids g5).bind fun v9 =>
 (zdf fuel g4 v9 x3).bind fun v10 =>
 zaA fuel x2 x3 v10 (g5 + 1)
 else
 some g4)
end
mutual
def zbm (fuel : Nat) (x1 : (List Int)) (x2 : Form) (x3 : (List Form)) (x4 : Int) : Option (List Int) :=
 match fuel with
 | 0 => none
 | fuel + 1 =>
 (zft fuel x2 x3).bind fun v1 =>
 (bif v1 then
 chk (decide ((x1.length + [x4].length) * 8 ≤ 140737488355328)) <|
 zX fuel x2 x3 x4 (x1 ++ [x4]) 0
 else
 zX fuel x2 x3 x4 x1 0)
def zX (fuel : Nat) (x2 : Form) (x3 : (List Form)) (x4 : Int) (g4 : (List Int)) (g5 : Int) : Option (List Int) :=
 match fuel with
 | 0 => none
 | fuel + 1 =>
 (bif (decide (g5 < (x2.kids.length : Int))) then
 (bif (decide ((g5 + 1) < (x2.kids.length : Int))) then
 (idx x2.kids (g5 + 1)).bind fun v10 =>
 (zbT fuel v10).bind fun v11 =>
 (bif v11 then
 (idx x2.kids g5).bind fun v13 =>
 (zbm fuel g4 v13 x3 (w64 (x4 + 1))).bind fun v14 =>
 zX fuel x2 x3 x4 v14 (g5 + 1)
 else
 (idx x2.kids g5).bind fun v15 =>
 (zbm fuel g4 v15 x3 x4).bind fun v16 =>
 zX fuel x2 x3 x4 v16 (g5 + 1))
 else
 (idx x2.kids g5).bind fun v17 =>
 (zbm fuel g4 v17 x3 x4).bind fun v18 =>
 zX fuel x2 x3 x4 v18 (g5 + 1))
 else
 some g4)
end
mutual
def zcQ (fuel : Nat) (g9 : (List Form)) (v17 : (List Int)) (g18 : Int) : Option Bool :=
 match fuel with
 | 0 => none
 | fuel + 1 =>
 (bif (decide (g18 < (v17.length : Int))) then
 (idx v17 g18).bind fun v22 =>
 (bif (decide (3 < v22)) then
 some false
 else
 zcQ fuel g9 v17 (g18 + 1))
 else
 some (decide ((g9.length : Int) ≤ 20)))
def zcR (fuel : Nat) (x1 : Form) (x2 : (List Form)) (g8 : Int) (g9 : (List Form)) : Option Bool :=
 match fuel with
 | 0 => none
 | fuel + 1 =>
 (bif (decide (g8 < (g9.length : Int))) then
 (sub g9 0 g8).bind fun v13 =>
 (idx g9 g8).bind fun v14 =>
 (zfj fuel v13 v14).bind fun v15 =>
 (bif v15 then
 some false
 else
 zcR fuel x1 x2 (g8 + 1) g9)
 else
 (zbm fuel ([] : List Int) x1 x2 0).bind fun v17 =>
 zcQ fuel g9 v17 0)
end
def zgx (fuel : Nat) (x1 : Form) (x2 : (List Form)) : Option Bool :=
 (zcD fuel x1).bind fun v1 =>
 (bif (!v1) then
 some false
 else
 (zcW fuel x2).bind fun v3 =>
 (bif (!v3) then
 some false
 else
 (zdv fuel x1).bind fun v5 =>
 (bif (!v5) then
 some false
 else
 (zdf fuel ([] : List Form) x1 x2).bind fun v7 =>
 zcR fuel x1 x2 0 v7)))
def zbE (fuel : Nat) (v1 : (List Form)) (v2 : (List Int)) (g3 : (List Hit)) (g4 : Int) : Option (List Hit) :=
 match fuel with
 | 0 => none
 | fuel + 1 =>
 (bif (decide (g4 < (v1.length : Int))) then
 (idx v1 g4).bind fun v8 =>
 (idx v2 g4).bind fun v9 =>
 (bif (decide (v9 = 0)) then
 (idx v1 g4).bind fun v11 =>
 chk (decide ((g3.length + [(Hit.mk v8 v9 v11 ([] : List Hit))].length) * 192 ≤ 140737488355328)) <|
 zbE fuel v1 v2 (g3 ++ [(Hit.mk v8 v9 v11 ([] : List Hit))]) (g4 + 1)
 else
 chk (decide ((g3.length + [(Hit.mk v8 v9 (Form.mk 0 (⟨#[]⟩ : ByteArray) 0 ([] : List Int) ([] : List Form)) ([] : List Hit))].length) * 192 ≤ 140737488355328)) <|
 zbE fuel v1 v2 (g3 ++ [(Hit.mk v8 v9 (Form.mk 0 (⟨#[]⟩ : ByteArray) 0 ([] : List Int) ([] : List Form)) ([] : List Hit))]) (g4 + 1))
 else
 some g3)
def zeX (fuel : Nat) (x1 : Form) (x2 : (List Form)) : Option (List Hit) :=
 (zdf fuel ([] : List Form) x1 x2).bind fun v1 =>
 (zbm fuel ([] : List Int) x1 x2 0).bind fun v2 =>
 zbE fuel v1 v2 ([] : List Hit) 0
def zcM (fuel : Nat) (x1 : Rule) (x2 : (List Form)) : Option Bool :=
 (zgx fuel x1.pattern x2).bind fun v1 =>
 (bif v1 then
 (bif (decide (x1.pattern.kind = 3)) then
 (bif (decide (0 < (x1.pattern.kids.length : Int))) then
 (zcD fuel x1.template).bind fun v5 =>
 (bif v5 then
 (zeX fuel x1.pattern x2).bind fun v7 =>
 (zdu fuel x1.template v7).bind fun v8 =>
 some v8
 else
 some false)
 else
 some false)
 else
 some false)
 else
 some false)
def zgh (fuel : Nat) (x1 : Rule) (x2 : (List Form)) : Option Bool :=
 (zcM fuel x1 x2).bind fun v1 =>
 some v1
def zfI (fuel : Nat) (x1 : Form) (o1 : Form) : Option Bool :=
 (zbx fuel x1 o1).bind fun v1 =>
 some v1
def z7 (fuel : Nat) (x1 : (List Form)) (o1 : Form) (g1 : Int) : Option Int :=
 match fuel with
 | 0 => none
 | fuel + 1 =>
 (bif (decide (g1 < (x1.length : Int))) then
 (idx x1 g1).bind fun v5 =>
 (zfI fuel v5 o1).bind fun v6 =>
 (bif v6 then
 some g1
 else
 z7 fuel x1 o1 (g1 + 1))
 else
 some (-1))
def zbK (fuel : Nat) (x1 : (List Form)) (o1 : Form) : Option Int :=
 z7 fuel x1 o1 0
def zbf (fuel : Nat) (x1 : (List Form)) (o1 : Form) : Option Bool :=
 (zbK fuel x1 o1).bind fun v1 =>
 some (decide (0 ≤ v1))
def zeD (fuel : Nat) (x1 : (List Form)) (x2 : Form) : Option Bool :=
 (zbf fuel x1 x2).bind fun v1 =>
 some v1
def zba (fuel : Nat) (x1 : (List Form)) (g1 : Int) : Option Bool :=
 match fuel with
 | 0 => none
 | fuel + 1 =>
 (bif (decide (g1 < (x1.length : Int))) then
 (idx x1 g1).bind fun v5 =>
 (zdq fuel v5).bind fun v6 =>
 (bif (!v6) then
 some false
 else
 (bif (decide (v5.name = (⟨#[46, 46, 46]⟩ : ByteArray))) then
 some false
 else
 (bif (decide (v5.name = (⟨#[95]⟩ : ByteArray))) then
 some false
 else
 (sub x1 0 g1).bind fun v10 =>
 (zeD fuel v10 v5).bind fun v11 =>
 (bif v11 then
 some false
 else
 zba fuel x1 (g1 + 1)))))
 else
 some (decide ((x1.length : Int) ≤ 9)))
def zcX (fuel : Nat) (x1 : (List Form)) : Option Bool :=
 zba fuel x1 0
def zf8 (fuel : Nat) (x1 : Form) (x2 : (List Form)) : Option Bool :=
 (bif (decide (x1.kind = 1)) then
 (bif (decide (x1.name ≠ (⟨#[46, 46, 46]⟩ : ByteArray))) then
 (bif (decide (x1.name ≠ (⟨#[95]⟩ : ByteArray))) then
 (zeD fuel x2 x1).bind fun v4 =>
 some (!v4)
 else
 some false)
 else
 some false)
 else
 some false)
mutual
def zaQ (fuel : Nat) (x1 : Form) (x2 : (List Form)) (x3 : Int) (o1 : (List Form)) (o2 : (List Int)) : Option ((List Form) × (List Int)) :=
 match fuel with
 | 0 => none
 | fuel + 1 =>
 (zf8 fuel x1 x2).bind fun v1 =>
 (bif v1 then
 chk (decide ((o1.length + [(Form.mk 0 (⟨#[]⟩ : ByteArray) 0 ([] : List Int) ([] : List Form))].length) * 80 ≤ 140737488355328)) <|
 (idx (o1 ++ [(Form.mk 0 (⟨#[]⟩ : ByteArray) 0 ([] : List Int) ([] : List Form))]) (o1.length : Int)).bind fun v4 =>
 chk (decide ((o2.length + [x3].length) * 8 ≤ 140737488355328)) <|
 zJ fuel x1 x2 x3 0 ((o1 ++ [(Form.mk 0 (⟨#[]⟩ : ByteArray) 0 ([] : List Int) ([] : List Form))]).set (o1.length : Int).toNat x1) (o2 ++ [x3])
 else
 zJ fuel x1 x2 x3 0 o1 o2)
def zJ (fuel : Nat) (x1 : Form) (x2 : (List Form)) (x3 : Int) (g6 : Int) (g7 : (List Form)) (g8 : (List Int)) : Option ((List Form) × (List Int)) :=
 match fuel with
 | 0 => none
 | fuel + 1 =>
 (bif (decide (g6 < (x1.kids.length : Int))) then
 (idx x1.kids g6).bind fun v12 =>
 (bif (decide ((g6 + 1) < (x1.kids.length : Int))) then
 (idx x1.kids (g6 + 1)).bind fun v14 =>
 (zce fuel v14 (⟨#[46, 46, 46]⟩ : ByteArray)).bind fun v15 =>
 (bif v15 then
 (zaQ fuel v12 x2 (w64 (x3 + 1)) g7 g8).bind fun v17 =>
 zJ fuel x1 x2 x3 (g6 + 1) v17.1 v17.2
 else
 (zaQ fuel v12 x2 x3 g7 g8).bind fun v18 =>
 zJ fuel x1 x2 x3 (g6 + 1) v18.1 v18.2)
 else
 (zaQ fuel v12 x2 x3 g7 g8).bind fun v19 =>
 zJ fuel x1 x2 x3 (g6 + 1) v19.1 v19.2)
 else
 some (g7, g8))
end
def zdZ (fuel : Nat) (x1 : Form) (x2 : (List Form)) : Option ((List Form) × (List Int)) :=
 (zaQ fuel x1 x2 0 ([] : List Form) ([] : List Int)).bind fun v1 =>
 some (v1.1, v1.2)
def zav (fuel : Nat) (v9 : (List Form) × (List Int)) (g10 : Int) (g11 : (List Form)) : Option Bool :=
 match fuel with
 | 0 => none
 | fuel + 1 =>
 (bif (decide (g10 < (v9.1.length : Int))) then
 (idx g11 g10).bind fun v14 =>
 (sub g11 0 g10).bind fun v15 =>
 (zeD fuel v15 v14).bind fun v16 =>
 (bif v16 then
 some false
 else
 (idx v9.2 g10).bind fun v18 =>
 (bif (decide (3 < v18)) then
 some false
 else
 zav fuel v9 (w64 (g10 + 1)) g11))
 else
 some (decide ((g11.length : Int) ≤ 20)))
def zc3 (fuel : Nat) (x1 : Form) (x2 : (List Form)) : Option Bool :=
 (zcG fuel x1).bind fun v1 =>
 (bif (!v1) then
 some false
 else
 (zcX fuel x2).bind fun v3 =>
 (bif (!v3) then
 some false
 else
 (zce fuel x1 (⟨#[46, 46, 46]⟩ : ByteArray)).bind fun v5 =>
 (bif v5 then
 some false
 else
 (zcP fuel x1 true).bind fun v7 =>
 (bif (!v7) then
 some false
 else
 (zdZ fuel x1 x2).bind fun v9 =>
 zav fuel v9 0 v9.1))))
end Go.Abs
