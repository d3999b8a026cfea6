/- A part of the proof: what the functions that the law calls answer, as pure values. -/
import Derived.Test.YtcllpfmjggkpnaaGreatKfed158489141
set_option linter.unusedSimpArgs false
set_option linter.unusedVariables false
set_option maxHeartbeats 4000000
namespace Go.Abs
def zeq (fuel : Nat) (x1 : Int) (x2 : Bool) : Option Bool :=
 (bif (decide (97 ≤ x1)) then
 (bif (decide (x1 ≤ 122)) then
 some true
 else
 (bif (decide (x1 = 42)) then
 some true
 else
 (bif (decide (x1 = 63)) then
 some true
 else
 (bif (decide (x1 = 61)) then
 some true
 else
 (bif (decide (x1 = 43)) then
 some true
 else
 (bif (decide (x1 = 60)) then
 some true
 else
 (bif (!x2) then
 (bif (decide (48 ≤ x1)) then
 (bif (decide (x1 ≤ 57)) then
 some true
 else
 some (decide (x1 = 45)))
 else
 some (decide (x1 = 45)))
 else
 some false)))))))
 else
 (bif (decide (x1 = 42)) then
 some true
 else
 (bif (decide (x1 = 63)) then
 some true
 else
 (bif (decide (x1 = 61)) then
 some true
 else
 (bif (decide (x1 = 43)) then
 some true
 else
 (bif (decide (x1 = 60)) then
 some true
 else
 (bif (!x2) then
 (bif (decide (48 ≤ x1)) then
 (bif (decide (x1 ≤ 57)) then
 some true
 else
 some (decide (x1 = 45)))
 else
 some (decide (x1 = 45)))
 else
 some false)))))))
def zbo (fuel : Nat) (x1 : ByteArray) (g3 : Int) : Option Bool :=
 match fuel with
 | 0 => none
 | fuel + 1 =>
 (bif (decide (g3 < (x1.size : Int))) then
 (bif (decide (g3 ≤ 12)) then
 (bidx x1 g3).bind fun v7 =>
 (zeq fuel v7 (decide (g3 = 0))).bind fun v8 =>
 (bif (!v8) then
 some false
 else
 zbo fuel x1 (w64 (g3 + 1)))
 else
 (bif (decide (1 ≤ (x1.size : Int))) then
 some (decide ((x1.size : Int) ≤ 12))
 else
 some false))
 else
 (bif (decide (1 ≤ (x1.size : Int))) then
 some (decide ((x1.size : Int) ≤ 12))
 else
 some false))
def zda (fuel : Nat) (x1 : ByteArray) : Option Bool :=
 (bif (decide (x1 = (⟨#[46, 46, 46]⟩ : ByteArray))) then
 some true
 else
 (bif (decide (x1 = (⟨#[95]⟩ : ByteArray))) then
 some true
 else
 zbo fuel x1 0))
def zbi (fuel : Nat) (x1 : (List Int)) (g1 : Int) : Option Bool :=
 match fuel with
 | 0 => none
 | fuel + 1 =>
 (bif (decide (g1 < (x1.length : Int))) then
 (bif (decide (g1 ≤ 24)) then
 (idx x1 g1).bind fun v5 =>
 (bif (decide (v5 < 1)) then
 some false
 else
 (idx x1 g1).bind fun v7 =>
 (bif (decide (99 < v7)) then
 some false
 else
 (bif (decide (0 < g1)) then
 (idx x1 g1).bind fun v10 =>
 (idx x1 (w64 (g1 - 1))).bind fun v11 =>
 (bif (decide (v10 ≤ v11)) then
 some false
 else
 zbi fuel x1 (w64 (g1 + 1)))
 else
 zbi fuel x1 (w64 (g1 + 1)))))
 else
 some (decide ((x1.length : Int) ≤ 24)))
 else
 some (decide ((x1.length : Int) ≤ 24)))
def zds (fuel : Nat) (x1 : (List Int)) : Option Bool :=
 zbi fuel x1 0
mutual
def zer (fuel : Nat) (x1 : Form) (x2 : Int) : Option Bool :=
 match fuel with
 | 0 => none
 | fuel + 1 =>
 (bif (decide (x2 = 0)) then
 some false
 else
 (bif (decide (x1.kind = 1)) then
 (zda fuel x1.name).bind fun v3 =>
 (bif v3 then
 (bif (decide (x1.n = 0)) then
 (zds fuel x1.scopes).bind fun v6 =>
 (bif v6 then
 some (decide ((x1.kids.length : Int) = 0))
 else
 some false)
 else
 some false)
 else
 some false)
 else
 (bif (decide (x1.kind = 2)) then
 (bif (decide (x1.name = (⟨#[]⟩ : ByteArray))) then
 (bif (decide (0 ≤ x1.n)) then
 (bif (decide (x1.n ≤ 999)) then
 (bif (decide ((x1.scopes.length : Int) = 0)) then
 some (decide ((x1.kids.length : Int) = 0))
 else
 some false)
 else
 some false)
 else
 some false)
 else
 some false)
 else
 (bif (decide (x1.kind ≠ 3)) then
 some false
 else
 (bif (decide (x1.name ≠ (⟨#[]⟩ : ByteArray))) then
 some false
 else
 (bif (decide (x1.n ≠ 0)) then
 some false
 else
 (bif (decide ((x1.scopes.length : Int) ≠ 0)) then
 some false
 else
 zdk fuel x1 x2 0)))))))
def zdk (fuel : Nat) (x1 : Form) (x2 : Int) (g17 : Int) : Option Bool :=
 match fuel with
 | 0 => none
 | fuel + 1 =>
 (bif (decide (g17 < (x1.kids.length : Int))) then
 (idx x1.kids g17).bind fun v21 =>
 (zer fuel v21 (w64 (x2 - 1))).bind fun v22 =>
 (bif (!v22) then
 some false
 else
 zdk fuel x1 x2 (g17 + 1))
 else
 some true)
end
mutual
def zdl (fuel : Nat) (x1 : Form) : Option Int :=
 match fuel with
 | 0 => none
 | fuel + 1 =>
 zbN fuel x1 1 0
def zbN (fuel : Nat) (x1 : Form) (g1 : Int) (g2 : Int) : Option Int :=
 match fuel with
 | 0 => none
 | fuel + 1 =>
 (bif (decide (g2 < (x1.kids.length : Int))) then
 (idx x1.kids g2).bind fun v6 =>
 (zdl fuel v6).bind fun v7 =>
 zbN fuel x1 (w64 (g1 + v7)) (g2 + 1)
 else
 some g1)
end
def zb4 (fuel : Nat) (x1 : Form) : Option Bool :=
 (zer fuel x1 40).bind fun v1 =>
 (bif v1 then
 (zdl fuel x1).bind fun v3 =>
 some (decide (v3 ≤ 400))
 else
 some false)
def zgs (fuel : Nat) (x1 : Form) : Option Bool :=
 (bif (decide (x1.kind = 1)) then
 (zb4 fuel x1).bind fun v2 =>
 some v2
 else
 some false)
def zcI (fuel : Nat) (x1 : (List Int)) (x2 : (List Int)) (g2 : Int) : Option Bool :=
 match fuel with
 | 0 => none
 | fuel + 1 =>
 (bif (decide (g2 < (x1.length : Int))) then
 (idx x1 g2).bind fun v6 =>
 (idx x2 g2).bind fun v7 =>
 (bif (decide (v6 ≠ v7)) then
 some false
 else
 zcI fuel x1 x2 (g2 + 1))
 else
 some true)
def zeH (fuel : Nat) (x1 : (List Int)) (x2 : (List Int)) : Option Bool :=
 (bif (decide ((x1.length : Int) ≠ (x2.length : Int))) then
 some false
 else
 zcI fuel x1 x2 0)
mutual
def zbG (fuel : Nat) (x1 : Form) (x2 : Form) : Option Bool :=
 match fuel with
 | 0 => none
 | fuel + 1 =>
 (bif (decide (x1.kind ≠ x2.kind)) then
 some false
 else
 (bif (decide (x1.name ≠ x2.name)) then
 some false
 else
 (bif (decide (x1.n ≠ x2.n)) then
 some false
 else
 (zeH fuel x1.scopes x2.scopes).bind fun v4 =>
 (bif (!v4) then
 some false
 else
 (bif (decide ((x1.kids.length : Int) ≠ (x2.kids.length : Int))) then
 some false
 else
 zbR fuel x1 x2 0)))))
def zbR (fuel : Nat) (x1 : Form) (x2 : Form) (g7 : Int) : Option Bool :=
 match fuel with
 | 0 => none
 | fuel + 1 =>
 (bif (decide (g7 < (x1.kids.length : Int))) then
 (idx x1.kids g7).bind fun v11 =>
 (idx x2.kids g7).bind fun v12 =>
 (zbG fuel v11 v12).bind fun v13 =>
 (bif (!v13) then
 some false
 else
 zbR fuel x1 x2 (g7 + 1))
 else
 some true)
end
def zcm (fuel : Nat) (x1 : Form) : Option Bool :=
 (bif (decide (x1.kind = 1)) then
 some (decide (x1.name = (⟨#[46, 46, 46]⟩ : ByteArray)))
 else
 some false)
def zdH (fuel : Nat) (x1 : ByteArray) (x2 : Int) : Option Int :=
 some (Lib.indexByte x1.data.toList x2.toNat.toUInt8)
def zco (fuel : Nat) (x1 : Int) (x2 : Int) (x3 : Int) : Option Bool :=
 (bif (decide (x2 ≤ x1)) then
 some (decide (x1 ≤ x3))
 else
 some false)
def zO (fuel : Nat) (x1 : ByteArray) (g3 : Int) : Option Bool :=
 match fuel with
 | 0 => none
 | fuel + 1 =>
 (bif (decide (g3 < (x1.size : Int))) then
 (bidx x1 g3).bind fun v6 =>
 (bif (decide (97 ≤ v6)) then
 (bif (decide (v6 ≤ 122)) then
 zO fuel x1 (w64 (g3 + 1))
 else
 (zdH fuel (⟨#[42, 63, 61, 43, 60]⟩ : ByteArray) v6).bind fun v9 =>
 (bif (decide (0 ≤ v9)) then
 zO fuel x1 (w64 (g3 + 1))
 else
 (bif (decide (0 < g3)) then
 (bif (decide (48 ≤ v6)) then
 (bif (decide (v6 ≤ 57)) then
 zO fuel x1 (w64 (g3 + 1))
 else
 (bif (decide (v6 = 45)) then
 zO fuel x1 (w64 (g3 + 1))
 else
 some false))
 else
 (bif (decide (v6 = 45)) then
 zO fuel x1 (w64 (g3 + 1))
 else
 some false))
 else
 some false)))
 else
 (zdH fuel (⟨#[42, 63, 61, 43, 60]⟩ : ByteArray) v6).bind fun v16 =>
 (bif (decide (0 ≤ v16)) then
 zO fuel x1 (w64 (g3 + 1))
 else
 (bif (decide (0 < g3)) then
 (bif (decide (48 ≤ v6)) then
 (bif (decide (v6 ≤ 57)) then
 zO fuel x1 (w64 (g3 + 1))
 else
 (bif (decide (v6 = 45)) then
 zO fuel x1 (w64 (g3 + 1))
 else
 some false))
 else
 (bif (decide (v6 = 45)) then
 zO fuel x1 (w64 (g3 + 1))
 else
 some false))
 else
 some false)))
 else
 (zco fuel (x1.size : Int) 1 12).bind fun v23 =>
 some v23)
def zdc (fuel : Nat) (x1 : ByteArray) : Option Bool :=
 (bif (decide (x1 = (⟨#[46, 46, 46]⟩ : ByteArray))) then
 some true
 else
 (bif (decide (x1 = (⟨#[95]⟩ : ByteArray))) then
 some true
 else
 zO fuel x1 0))
def zbl (fuel : Nat) (x1 : (List Int)) (g1 : Int) : Option Bool :=
 match fuel with
 | 0 => none
 | fuel + 1 =>
 (bif (decide (g1 < (x1.length : Int))) then
 (idx x1 g1).bind fun v5 =>
 (zco fuel v5 1 99).bind fun v6 =>
 (bif (!v6) then
 some false
 else
 (bif (decide (0 < g1)) then
 (idx x1 (w64 (g1 - 1))).bind fun v9 =>
 (bif (decide (v5 ≤ v9)) then
 some false
 else
 zbl fuel x1 (g1 + 1))
 else
 zbl fuel x1 (g1 + 1)))
 else
 some (decide ((x1.length : Int) ≤ 24)))
def zdu (fuel : Nat) (x1 : (List Int)) : Option Bool :=
 zbl fuel x1 0
mutual
def zdN (fuel : Nat) (x1 : Form) (x2 : Int) (o1 : Int) : Option (Bool × Int) :=
 match fuel with
 | 0 => none
 | fuel + 1 =>
 (bif (decide ((w64 (o1 - 1)) < 0)) then
 some (false, (w64 (o1 - 1)))
 else
 (bif (decide (40 < x2)) then
 some (false, (w64 (o1 - 1)))
 else
 (bif (decide (x1.kind = 1)) then
 (zdc fuel x1.name).bind fun v4 =>
 (bif v4 then
 (bif (decide (x1.n = 0)) then
 (zdu fuel x1.scopes).bind fun v7 =>
 (bif v7 then
 some ((decide ((x1.kids.length : Int) = 0)), (w64 (o1 - 1)))
 else
 some (false, (w64 (o1 - 1))))
 else
 some (false, (w64 (o1 - 1))))
 else
 some (false, (w64 (o1 - 1))))
 else
 (bif (decide (x1.kind = 2)) then
 (bif (decide (x1.name = (⟨#[]⟩ : ByteArray))) then
 (zco fuel x1.n 0 999).bind fun v11 =>
 (bif v11 then
 (bif (decide ((x1.scopes.length : Int) = 0)) then
 some ((decide ((x1.kids.length : Int) = 0)), (w64 (o1 - 1)))
 else
 some (false, (w64 (o1 - 1))))
 else
 some (false, (w64 (o1 - 1))))
 else
 some (false, (w64 (o1 - 1))))
 else
 (bif (decide (x1.kind = 3)) then
 (bif (decide (x1.name ≠ (⟨#[]⟩ : ByteArray))) then
 some (false, (w64 (o1 - 1)))
 else
 (bif (decide (x1.n ≠ 0)) then
 some (false, (w64 (o1 - 1)))
 else
 (bif (decide (0 < (x1.scopes.length : Int))) then
 some (false, (w64 (o1 - 1)))
 else
 zb6 fuel x1 x2 0 (w64 (o1 - 1)))))
 else
 some (false, (w64 (o1 - 1))))))))
def zb6 (fuel : Nat) (x1 : Form) (x2 : Int) (g19 : Int) (g20 : Int) : Option (Bool × Int) :=
 match fuel with
 | 0 => none
 | fuel + 1 =>
 (bif (decide (g19 < (x1.kids.length : Int))) then
 (idx x1.kids g19).bind fun v24 =>
 (zdN fuel v24 (w64 (x2 + 1)) g20).bind fun v25 =>
 (bif (!v25.1) then
 some (false, v25.2)
 else
 zb6 fuel x1 x2 (g19 + 1) v25.2)
 else
 some (true, g20))
end
def zbt (fuel : Nat) (x1 : Form) : Option Bool :=
 (zdN fuel x1 1 400).bind fun v1 =>
 some v1.1
def zcL (fuel : Nat) (x1 : Form) : Option Bool :=
 (bif (decide (x1.kind = 1)) then
 (zbt fuel x1).bind fun v2 =>
 some v2
 else
 some false)
def zbq (fuel : Nat) (x1 : (List Int)) (x2 : (List Int)) (g2 : Int) : Option Bool :=
 match fuel with
 | 0 => none
 | fuel + 1 =>
 (bif (decide (g2 < (x1.length : Int))) then
 (idx x1 g2).bind fun v6 =>
 (idx x2 g2).bind fun v7 =>
 (bif (decide (v6 ≠ v7)) then
 some false
 else
 zbq fuel x1 x2 (g2 + 1))
 else
 some true)
def zcz (fuel : Nat) (x1 : (List Int)) (x2 : (List Int)) : Option Bool :=
 (bif (decide ((x1.length : Int) ≠ (x2.length : Int))) then
 some false
 else
 zbq fuel x1 x2 0)
mutual
def zaC (fuel : Nat) (x1 : Form) (x2 : Form) : Option Bool :=
 match fuel with
 | 0 => none
 | fuel + 1 =>
 (bif (decide (x1.kind = x2.kind)) then
 (bif (decide (x1.name = x2.name)) then
 (bif (decide (x1.n = x2.n)) then
 (zcz fuel x1.scopes x2.scopes).bind fun v4 =>
 (bif v4 then
 (zaS fuel x1.kids x2.kids).bind fun v6 =>
 some v6
 else
 some false)
 else
 some false)
 else
 some false)
 else
 some false)
def zaS (fuel : Nat) (x1 : (List Form)) (x2 : (List Form)) : Option Bool :=
 match fuel with
 | 0 => none
 | fuel + 1 =>
 (bif (decide ((x1.length : Int) ≠ (x2.length : Int))) then
 some false
 else
 zU fuel x1 x2 0)
def zU (fuel : Nat) (x1 : (List Form)) (x2 : (List Form)) (g2 : Int) : Option Bool :=
 match fuel with
 | 0 => none
 | fuel + 1 =>
 (bif (decide (g2 < (x1.length : Int))) then
 (idx x1 g2).bind fun v6 =>
 (idx x2 g2).bind fun v7 =>
 (zaC fuel v6 v7).bind fun v8 =>
 (bif (!v8) then
 some false
 else
 zU fuel x1 x2 (g2 + 1))
 else
 some true)
end
mutual
def zdG (fuel : Nat) (x1 : Hit) : Option Bool :=
 match fuel with
 | 0 => none
 | fuel + 1 =>
 (zcL fuel x1.name).bind fun v1 =>
 (bif (!v1) then
 some false
 else
 (bif (decide (x1.name.name = (⟨#[46, 46, 46]⟩ : ByteArray))) then
 some false
 else
 (bif (decide (x1.name.name = (⟨#[95]⟩ : ByteArray))) then
 some false
 else
 (zco fuel x1.depth 0 3).bind fun v5 =>
 (bif (!v5) then
 some false
 else
 (bif (decide (x1.depth = 0)) then
 (zbt fuel x1.one).bind fun v8 =>
 (bif v8 then
 some (decide ((x1.many.length : Int) = 0))
 else
 some false)
 else
 (zaC fuel x1.one (Form.mk 0 (⟨#[]⟩ : ByteArray) 0 ([] : List Int) ([] : List Form))).bind fun v10 =>
 (bif v10 then
 (bif (decide ((x1.many.length : Int) ≤ 400)) then
 (zaO fuel x1.many x1).bind fun v13 =>
 some (!v13)
 else
 some false)
 else
 some false))))))
def zdn (fuel : Nat) (x1 : Hit) (o1 : Hit) : Option Bool :=
 match fuel with
 | 0 => none
 | fuel + 1 =>
 (zaC fuel x1.name o1.name).bind fun v1 =>
 (bif (!v1) then
 some true
 else
 (bif (decide (x1.depth ≠ (w64 (o1.depth - 1)))) then
 some true
 else
 (zdG fuel x1).bind fun v4 =>
 some (!v4)))
def zaO (fuel : Nat) (x1 : (List Hit)) (o1 : Hit) : Option Bool :=
 match fuel with
 | 0 => none
 | fuel + 1 =>
 (za2 fuel x1 o1).bind fun v1 =>
 some (decide (0 ≤ v1))
def za2 (fuel : Nat) (x1 : (List Hit)) (o1 : Hit) : Option Int :=
 match fuel with
 | 0 => none
 | fuel + 1 =>
 zaa fuel x1 o1 0
def zaa (fuel : Nat) (x1 : (List Hit)) (o1 : Hit) (g1 : Int) : Option Int :=
 match fuel with
 | 0 => none
 | fuel + 1 =>
 (bif (decide (g1 < (x1.length : Int))) then
 (idx x1 g1).bind fun v5 =>
 (zdn fuel v5 o1).bind fun v6 =>
 (bif v6 then
 some g1
 else
 zaa fuel x1 o1 (g1 + 1))
 else
 some (-1))
end
def zdf (fuel : Nat) (x1 : Form) (x2 : ByteArray) : Option Bool :=
 (bif (decide (x1.kind = 1)) then
 some (decide (x1.name = x2))
 else
 some false)
def zc0 (fuel : Nat) (x1 : Form) : Option Bool :=
 (zdf fuel x1 (⟨#[46, 46, 46]⟩ : ByteArray)).bind fun v1 =>
 some v1
def zE (fuel : Nat) (x1 : (List Form)) (g1 : Int) : Option Int :=
 match fuel with
 | 0 => none
 | fuel + 1 =>
 (bif (decide (g1 < (x1.length : Int))) then
 (idx x1 g1).bind fun v5 =>
 (zc0 fuel v5).bind fun v6 =>
 (bif v6 then
 some g1
 else
 zE fuel x1 (g1 + 1))
 else
 some (-1))
def zaR (fuel : Nat) (x1 : (List Form)) : Option Int :=
 zE fuel x1 0
def zdO (fuel : Nat) (x1 : (List Form)) : Option Int :=
 (zaR fuel x1).bind fun v1 =>
 some v1
mutual
def zdh (fuel : Nat) (x1 : Form) (x2 : Bool) : Option Bool :=
 match fuel with
 | 0 => none
 | fuel + 1 =>
 zbs fuel x1 x2 0
def zbs (fuel : Nat) (x1 : Form) (x2 : Bool) (g1 : Int) : Option Bool :=
 match fuel with
 | 0 => none
 | fuel + 1 =>
 (bif (decide (g1 < (x1.kids.length : Int))) then
 (idx x1.kids g1).bind fun v5 =>
 (zdf fuel v5 (⟨#[46, 46, 46]⟩ : ByteArray)).bind fun v6 =>
 (bif v6 then
 (bif (decide (g1 = 0)) then
 some false
 else
 (idx x1.kids (w64 (g1 - 1))).bind fun v9 =>
 (zdf fuel v9 (⟨#[46, 46, 46]⟩ : ByteArray)).bind fun v10 =>
 (bif v10 then
 some false
 else
 (bif x2 then
 (sub x1.kids 0 g1).bind fun v13 =>
 (zdO fuel v13).bind fun v14 =>
 (bif (decide (0 ≤ v14)) then
 some false
 else
 zbs fuel x1 x2 (g1 + 1))
 else
 zbs fuel x1 x2 (g1 + 1))))
 else
 (zdh fuel v5 x2).bind fun v16 =>
 (bif (!v16) then
 some false
 else
 zbs fuel x1 x2 (g1 + 1)))
 else
 some true)
end
def zcQ (fuel : Nat) (x1 : (List Form)) (x2 : Form) (g1 : Int) : Option Bool :=
 match fuel with
 | 0 => none
 | fuel + 1 =>
 (bif (decide (g1 < (x1.length : Int))) then
 (idx x1 g1).bind fun v5 =>
 (zbG fuel v5 x2).bind fun v6 =>
 (bif v6 then
 some true
 else
 zcQ fuel x1 x2 (g1 + 1))
 else
 some false)
def zep (fuel : Nat) (x1 : (List Form)) (x2 : Form) : Option Bool :=
 zcQ fuel x1 x2 0
def za9 (fuel : Nat) (x1 : (List Form)) (g1 : Int) : Option Bool :=
 match fuel with
 | 0 => none
 | fuel + 1 =>
 (bif (decide (g1 < (x1.length : Int))) then
 (bif (decide (g1 < 10)) then
 (idx x1 g1).bind fun v5 =>
 (zgs fuel v5).bind fun v6 =>
 (bif (!v6) then
 some false
 else
 (idx x1 g1).bind fun v8 =>
 (bif (decide (v8.name = (⟨#[46, 46, 46]⟩ : ByteArray))) then
 some false
 else
 (idx x1 g1).bind fun v10 =>
 (bif (decide (v10.name = (⟨#[95]⟩ : ByteArray))) then
 some false
 else
 (sub x1 0 g1).bind fun v12 =>
 (idx x1 g1).bind fun v13 =>
 (zep fuel v12 v13).bind fun v14 =>
 (bif v14 then
 some false
 else
 za9 fuel x1 (w64 (g1 + 1))))))
 else
 some (decide ((x1.length : Int) < 10)))
 else
 some (decide ((x1.length : Int) < 10)))
def zdr (fuel : Nat) (x1 : (List Form)) : Option Bool :=
 za9 fuel x1 0
mutual
def zdj (fuel : Nat) (x1 : Form) : Option Bool :=
 match fuel with
 | 0 => none
 | fuel + 1 =>
 (zcm fuel x1).bind fun v1 =>
 (bif v1 then
 some false
 else
 zbv fuel x1 0 0)
def zbv (fuel : Nat) (x1 : Form) (g3 : Int) (g4 : Int) : Option Bool :=
 match fuel with
 | 0 => none
 | fuel + 1 =>
 (bif (decide (g4 < (x1.kids.length : Int))) then
 (idx x1.kids g4).bind fun v8 =>
 (zcm fuel v8).bind fun v9 =>
 (bif v9 then
 (bif (decide (g4 = 0)) then
 some false
 else
 (idx x1.kids (w64 (g4 - 1))).bind fun v12 =>
 (zcm fuel v12).bind fun v13 =>
 (bif v13 then
 some false
 else
 zbv fuel x1 (w64 (g3 + 1)) (g4 + 1)))
 else
 (idx x1.kids g4).bind fun v15 =>
 (zdj fuel v15).bind fun v16 =>
 (bif (!v16) then
 some false
 else
 zbv fuel x1 g3 (g4 + 1)))
 else
 some (decide (g3 ≤ 1)))
end
def zfk (fuel : Nat) (x1 : Form) (x2 : (List Form)) : Option Bool :=
 (bif (decide (x1.kind = 1)) then
 (bif (decide (x1.name ≠ (⟨#[46, 46, 46]⟩ : ByteArray))) then
 (bif (decide (x1.name ≠ (⟨#[95]⟩ : ByteArray))) then
 (zep fuel x2 x1).bind fun v4 =>
 some (!v4)
 else
 some false)
 else
 some false)
 else
 some false)
mutual
def zcK (fuel : Nat) (x1 : (List Form)) (x2 : Form) (x3 : (List Form)) : Option (List Form) :=
 match fuel with
 | 0 => none
 | fuel + 1 =>
 (zfk fuel x2 x3).bind fun v1 =>
 (bif v1 then
 chk (decide ((x1.length + [x2].length) * 80 ≤ 140737488355328)) <|
 zaL fuel x2 x3 (x1 ++ [x2]) 0
 else
 zaL fuel x2 x3 x1 0)
def zaL (fuel : Nat) (x2 : Form) (x3 : (List Form)) (g4 : (List Form)) (g5 : Int) : Option (List Form) :=
 match fuel with
 | 0 => none
 | fuel + 1 =>
 (bif (decide (g5 < (x2.kids.length : Int))) then
 (idx x2.kids g5).bind fun v9 =>
 (zcK fuel g4 v9 x3).bind fun v10 =>
 zaL fuel x2 x3 v10 (g5 + 1)
 else
 some g4)
end
mutual
def za7 (fuel : Nat) (x1 : (List Int)) (x2 : Form) (x3 : (List Form)) (x4 : Int) : Option (List Int) :=
 match fuel with
 | 0 => none
 | fuel + 1 =>
 (zfk fuel x2 x3).bind fun v1 =>
 (bif v1 then
 chk (decide ((x1.length + [x4].length) * 8 ≤ 140737488355328)) <|
 zV fuel x2 x3 x4 (x1 ++ [x4]) 0
 else
 zV fuel x2 x3 x4 x1 0)
def zV (fuel : Nat) (x2 : Form) (x3 : (List Form)) (x4 : Int) (g4 : (List Int)) (g5 : Int) : Option (List Int) :=
 match fuel with
 | 0 => none
 | fuel + 1 =>
 (bif (decide (g5 < (x2.kids.length : Int))) then
 (bif (decide ((g5 + 1) < (x2.kids.length : Int))) then
 (idx x2.kids (g5 + 1)).bind fun v10 =>
 (zcm fuel v10).bind fun v11 =>
 (bif v11 then
 (idx x2.kids g5).bind fun v13 =>
 (za7 fuel g4 v13 x3 (w64 (x4 + 1))).bind fun v14 =>
 zV fuel x2 x3 x4 v14 (g5 + 1)
 else
 (idx x2.kids g5).bind fun v15 =>
 (za7 fuel g4 v15 x3 x4).bind fun v16 =>
 zV fuel x2 x3 x4 v16 (g5 + 1))
 else
 (idx x2.kids g5).bind fun v17 =>
 (za7 fuel g4 v17 x3 x4).bind fun v18 =>
 zV fuel x2 x3 x4 v18 (g5 + 1))
 else
 some g4)
end
mutual
def zcO (fuel : Nat) (g9 : (List Form)) (v17 : (List Int)) (g18 : Int) : Option Bool :=
 match fuel with
 | 0 => none
 | fuel + 1 =>
 (bif (decide (g18 < (v17.length : Int))) then
 (idx v17 g18).bind fun v22 =>
 (bif (decide (3 < v22)) then
 some false
 else
 zcO fuel g9 v17 (g18 + 1))
 else
 some (decide ((g9.length : Int) ≤ 20)))
def zcP (fuel : Nat) (x1 : Form) (x2 : (List Form)) (g8 : Int) (g9 : (List Form)) : Option Bool :=
 match fuel with
 | 0 => none
 | fuel + 1 =>
 (bif (decide (g8 < (g9.length : Int))) then
 (sub g9 0 g8).bind fun v13 =>
 (idx g9 g8).bind fun v14 =>
 (zep fuel v13 v14).bind fun v15 =>
 (bif v15 then
 some false
 else
 zcP fuel x1 x2 (g8 + 1) g9)
 else
 (za7 fuel ([] : List Int) x1 x2 0).bind fun v17 =>
 zcO fuel g9 v17 0)
end
def zgr (fuel : Nat) (x1 : Form) (x2 : (List Form)) : Option Bool :=
 (zb4 fuel x1).bind fun v1 =>
 (bif (!v1) then
 some false
 else
 (zdr fuel x2).bind fun v3 =>
 (bif (!v3) then
 some false
 else
 (zdj fuel x1).bind fun v5 =>
 (bif (!v5) then
 some false
 else
 (zcK fuel ([] : List Form) x1 x2).bind fun v7 =>
 zcP fuel x1 x2 0 v7)))
def zfD (fuel : Nat) (x1 : Form) (o1 : Form) : Option Bool :=
 (zaC fuel x1 o1).bind fun v1 =>
 some v1
def zab (fuel : Nat) (x1 : (List Form)) (o1 : Form) (g1 : Int) : Option Int :=
 match fuel with
 | 0 => none
 | fuel + 1 =>
 (bif (decide (g1 < (x1.length : Int))) then
 (idx x1 g1).bind fun v5 =>
 (zfD fuel v5 o1).bind fun v6 =>
 (bif v6 then
 some g1
 else
 zab fuel x1 o1 (g1 + 1))
 else
 some (-1))
def zbB (fuel : Nat) (x1 : (List Form)) (o1 : Form) : Option Int :=
 zab fuel x1 o1 0
def zbk (fuel : Nat) (x1 : (List Form)) (o1 : Form) : Option Bool :=
 (zbB fuel x1 o1).bind fun v1 =>
 some (decide (0 ≤ v1))
def zew (fuel : Nat) (x1 : (List Form)) (x2 : Form) : Option Bool :=
 (zbk fuel x1 x2).bind fun v1 =>
 some v1
def zbe (fuel : Nat) (x1 : (List Form)) (g1 : Int) : Option Bool :=
 match fuel with
 | 0 => none
 | fuel + 1 =>
 (bif (decide (g1 < (x1.length : Int))) then
 (idx x1 g1).bind fun v5 =>
 (zcL fuel v5).bind fun v6 =>
 (bif (!v6) then
 some false
 else
 (bif (decide (v5.name = (⟨#[46, 46, 46]⟩ : ByteArray))) then
 some false
 else
 (bif (decide (v5.name = (⟨#[95]⟩ : ByteArray))) then
 some false
 else
 (sub x1 0 g1).bind fun v10 =>
 (zew fuel v10 v5).bind fun v11 =>
 (bif v11 then
 some false
 else
 zbe fuel x1 (g1 + 1)))))
 else
 some (decide ((x1.length : Int) ≤ 9)))
def zdy (fuel : Nat) (x1 : (List Form)) : Option Bool :=
 zbe fuel x1 0
def zf6 (fuel : Nat) (x1 : Form) (x2 : (List Form)) : Option Bool :=
 (bif (decide (x1.kind = 1)) then
 (bif (decide (x1.name ≠ (⟨#[46, 46, 46]⟩ : ByteArray))) then
 (bif (decide (x1.name ≠ (⟨#[95]⟩ : ByteArray))) then
 (zew fuel x2 x1).bind fun v4 =>
 some (!v4)
 else
 some false)
 else
 some false)
 else
 some false)
mutual
def za0 (fuel : Nat) (x1 : Form) (x2 : (List Form)) (x3 : Int) (o1 : (List Form)) (o2 : (List Int)) : Option ((List Form) × (List Int)) :=
 match fuel with
 | 0 => none
 | fuel + 1 =>
 (zf6 fuel x1 x2).bind fun v1 =>
 (bif v1 then
 chk (decide ((o1.length + [(Form.mk 0 (⟨#[]⟩ : ByteArray) 0 ([] : List Int) ([] : List Form))].length) * 80 ≤ 140737488355328)) <|
 (idx (o1 ++ [(Form.mk 0 (⟨#[]⟩ : ByteArray) 0 ([] : List Int) ([] : List Form))]) (o1.length : Int)).bind fun v4 =>
 chk (decide ((o2.length + [x3].length) * 8 ≤ 140737488355328)) <|
 zG fuel x1 x2 x3 0 ((o1 ++ [(Form.mk 0 (⟨#[]⟩ : ByteArray) 0 ([] : List Int) ([] : List Form))]).set (o1.length : Int).toNat x1) (o2 ++ [x3])
 else
 zG fuel x1 x2 x3 0 o1 o2)
def zG (fuel : Nat) (x1 : Form) (x2 : (List Form)) (x3 : Int) (g6 : Int) (g7 : (List Form)) (g8 : (List Int)) : Option ((List Form) × (List Int)) :=
 match fuel with
 | 0 => none
 | fuel + 1 =>
 (bif (decide (g6 < (x1.kids.length : Int))) then
 (idx x1.kids g6).bind fun v12 =>
 (bif (decide ((g6 + 1) < (x1.kids.length : Int))) then
 (idx x1.kids (g6 + 1)).bind fun v14 =>
 (zdf fuel v14 (⟨#[46, 46, 46]⟩ : ByteArray)).bind fun v15 =>
 (bif v15 then
 (za0 fuel v12 x2 (w64 (x3 + 1)) g7 g8).bind fun v17 =>
 zG fuel x1 x2 x3 (g6 + 1) v17.1 v17.2
 else
 (za0 fuel v12 x2 x3 g7 g8).bind fun v18 =>
 zG fuel x1 x2 x3 (g6 + 1) v18.1 v18.2)
 else
 (za0 fuel v12 x2 x3 g7 g8).bind fun v19 =>
 zG fuel x1 x2 x3 (g6 + 1) v19.1 v19.2)
 else
 some (g7, g8))
end
def zeK (fuel : Nat) (x1 : Form) (x2 : (List Form)) : Option ((List Form) × (List Int)) :=
 (za0 fuel x1 x2 0 ([] : List Form) ([] : List Int)).bind fun v1 =>
 some (v1.1, v1.2)
def zaE (fuel : Nat) (v9 : (List Form) × (List Int)) (g10 : Int) (g11 : (List Form)) : Option Bool :=
 match fuel with
 | 0 => none
 | fuel + 1 =>
 (bif (decide (g10 < (v9.1.length : Int))) then
 (idx g11 g10).bind fun v14 =>
 (sub g11 0 g10).bind fun v15 =>
 (zew fuel v15 v14).bind fun v16 =>
 (bif v16 then
 some false
 else
 (idx v9.2 g10).bind fun v18 =>
 (bif (decide (3 < v18)) then
 some false
 else
 zaE fuel v9 (w64 (g10 + 1)) g11))
 else
 some (decide ((g11.length : Int) ≤ 20)))
def zc1 (fuel : Nat) (x1 : Form) (x2 : (List Form)) : Option Bool :=
 (zbt fuel x1).bind fun v1 =>
 (bif (!v1) then
 some false
 else
 (zdy fuel x2).bind fun v3 =>
 (bif (!v3) then
 some false
 else
 (zdf fuel x1 (⟨#[46, 46, 46]⟩ : ByteArray)).bind fun v5 =>
 (bif v5 then
 some false
 else
 (zdh fuel x1 true).bind fun v7 =>
 (bif (!v7) then
 some false
 else
 (zeK fuel x1 x2).bind fun v9 =>
 zaE fuel v9 0 v9.1))))
def zed (fuel : Nat) (x1 : (List Int)) : Option zb9 :=
 (bif (decide (2000 < (x1.length : Int))) then
 (sub x1 0 2000).bind fun v3 =>
 some (zb9.mk v3 0)
 else
 some (zb9.mk x1 0))
def zfX (fuel : Nat)  : Option (List (List ByteArray)) :=
 some [[(⟨#[40, 95, 32, 97, 32, 98, 41]⟩ : ByteArray), (⟨#[40, 115, 119, 97, 112, 32, 120, 32, 121, 41]⟩ : ByteArray)], [(⟨#[40, 95, 32, 97, 32, 46, 46, 46, 41]⟩ : ByteArray), (⟨#[40, 108, 105, 115, 116, 32, 49, 32, 50, 32, 51, 41]⟩ : ByteArray)], [(⟨#[40, 95, 32, 40, 120, 32, 118, 41, 32, 46, 46, 46, 32, 98, 111, 100, 121, 41]⟩ : ByteArray), (⟨#[40, 108, 101, 116, 32, 40, 112, 32, 49, 41, 32, 40, 113, 32, 50, 41, 32, 40, 102, 32, 112, 32, 113, 41, 41]⟩ : ByteArray)], [(⟨#[40, 95, 32, 40, 40, 120, 32, 118, 41, 32, 46, 46, 46, 41, 32, 98, 111, 100, 121, 32, 46, 46, 46, 41]⟩ : ByteArray), (⟨#[40, 108, 101, 116, 32, 40, 40, 112, 32, 49, 41, 32, 40, 113, 32, 40, 103, 32, 50, 41, 41, 41, 32, 112, 32, 113, 41]⟩ : ByteArray)], [(⟨#[40, 95, 32, 40, 97, 32, 98, 32, 46, 46, 46, 41, 32, 46, 46, 46, 41]⟩ : ByteArray), (⟨#[40, 109, 32, 40, 120, 32, 49, 32, 50, 41, 32, 40, 121, 41, 32, 40, 122, 32, 51, 41, 41]⟩ : ByteArray)], [(⟨#[40, 95, 32, 97, 32, 101, 108, 115, 101, 32, 98, 41]⟩ : ByteArray), (⟨#[40, 109, 32, 112, 32, 101, 108, 115, 101, 32, 113, 41]⟩ : ByteArray)], [(⟨#[40, 95, 41]⟩ : ByteArray), (⟨#[40, 109, 41]⟩ : ByteArray)], [(⟨#[40, 95, 32, 53, 32, 97, 41]⟩ : ByteArray), (⟨#[40, 109, 32, 53, 32, 120, 41]⟩ : ByteArray)], [(⟨#[40, 95, 32, 97, 32, 46, 46, 46, 32, 122, 41]⟩ : ByteArray), (⟨#[40, 109, 32, 49, 32, 50, 32, 51, 32, 52, 41]⟩ : ByteArray)], [(⟨#[97]⟩ : ByteArray), (⟨#[40, 102, 32, 120, 41]⟩ : ByteArray)], [(⟨#[40, 95, 32, 40, 97, 32, 40, 98, 32, 46, 46, 46, 41, 32, 46, 46, 46, 41, 32, 46, 46, 46, 41]⟩ : ByteArray), (⟨#[40, 109, 32, 40, 120, 32, 40, 49, 32, 50, 41, 32, 40, 41, 41, 32, 40, 121, 41, 41]⟩ : ByteArray)]]
def zad (fuel : Nat) (o1 : zb9) (x2 : Int) : Option (Int × zb9) :=
 (bif (decide (x2 < 1)) then
 some (0, (zb9.mk o1.b (w64 (o1.p + 1))))
 else
 (bif (decide ((o1.b.length : Int) = 0)) then
 some (0, (zb9.mk o1.b (w64 (o1.p + 1))))
 else
 (bif (decide ((w64 ((w64 (o1.p + 1)) - 1)) < (o1.b.length : Int))) then
 (idx o1.b (w64 ((w64 (o1.p + 1)) - 1))).bind fun v4 =>
 chk (decide (x2 ≠ 0)) <|
 some (((w64 v4).tmod x2), (zb9.mk o1.b (w64 (o1.p + 1))))
 else
 chk (decide ((o1.b.length : Int) ≠ 0)) <|
 (idx o1.b ((w64 ((w64 (o1.p + 1)) - 1)).tmod (o1.b.length : Int))).bind fun v7 =>
 chk (decide ((o1.b.length : Int) ≠ 0)) <|
 (idx o1.b ((w64 ((w64 ((w64 ((w64 (o1.p + 1)) - 1)) * 7)) + 3)).tmod (o1.b.length : Int))).bind fun v9 =>
 chk (decide ((o1.b.length : Int) ≠ 0)) <|
 chk (decide (x2 ≠ 0)) <|
 some (((xor64 (w64 ((w64 ((w64 ((w64 ((w64 v7) * 131)) + (w64 ((w64 v9) * 1117)))) + (w64 ((w64 ((w64 (o1.p + 1)) - 1)) * 29)))) + (w64 ((w64 ((w64 ((w64 (o1.p + 1)) - 1)).tdiv (o1.b.length : Int))) * 53)))) (w64 ((w64 ((w64 ((w64 ((w64 ((w64 v7) * 131)) + (w64 ((w64 v9) * 1117)))) + (w64 ((w64 ((w64 (o1.p + 1)) - 1)) * 29)))) + (w64 ((w64 ((w64 ((w64 (o1.p + 1)) - 1)).tdiv (o1.b.length : Int))) * 53)))).tdiv 64))).tmod x2), (zb9.mk o1.b (w64 (o1.p + 1)))))))
def zdT (fuel : Nat) (x1 : ByteArray) (g1 : Int) : Option Int :=
 match fuel with
 | 0 => none
 | fuel + 1 =>
 (bif (decide (g1 < (x1.size : Int))) then
 (bidx x1 g1).bind fun v4 =>
 (bif (decide (v4 = 32)) then
 zdT fuel x1 (w64 (g1 + 1))
 else
 some g1)
 else
 some g1)
def zeG (fuel : Nat) (x1 : ByteArray) (x2 : Int) : Option Int :=
 zdT fuel x1 x2
def zdS (fuel : Nat) (x1 : ByteArray) (g1 : Int) : Option Int :=
 match fuel with
 | 0 => none
 | fuel + 1 =>
 (bif (decide (g1 < (x1.size : Int))) then
 (bidx x1 g1).bind fun v4 =>
 (bif (decide (v4 ≠ 32)) then
 (bidx x1 g1).bind fun v6 =>
 (bif (decide (v6 ≠ 40)) then
 (bidx x1 g1).bind fun v8 =>
 (bif (decide (v8 ≠ 41)) then
 (bidx x1 g1).bind fun v10 =>
 (bif (decide (v10 ≠ 123)) then
 zdS fuel x1 (w64 (g1 + 1))
 else
 some g1)
 else
 some g1)
 else
 some g1)
 else
 some g1)
 else
 some g1)
def zhb (fuel : Nat) (x1 : ByteArray) (x2 : Int) : Option Int :=
 zdS fuel x1 x2
mutual
def zd3 (fuel : Nat) (g3 : Bool) (g7 : ByteArray) (g16 : Int) (g17 : Int) (g23 : Bool) : Option (Int × Bool) :=
 match fuel with
 | 0 => none
 | fuel + 1 =>
 (bif g23 then
 some (0, false)
 else
 (bidx g7 g17).bind fun v26 =>
 zd2 fuel g3 g7 (w64 ((w64 (g16 * 10)) + (w64 (w8 (v26 - 48))))) (w64 (g17 + 1)))
def zd2 (fuel : Nat) (g3 : Bool) (g7 : ByteArray) (g16 : Int) (g17 : Int) : Option (Int × Bool) :=
 match fuel with
 | 0 => none
 | fuel + 1 =>
 (bif (decide (g17 < (g7.size : Int))) then
 (bidx g7 g17).bind fun v20 =>
 (bif (decide (v20 < 48)) then
 zd3 fuel g3 g7 g16 g17 true
 else
 (bidx g7 g17).bind fun v22 =>
 zd3 fuel g3 g7 g16 g17 (decide (57 < v22)))
 else
 (bif g3 then
 some ((w64 (0 - g16)), true)
 else
 some (g16, true)))
def zd4 (fuel : Nat) (g3 : Bool) (g7 : ByteArray) : Option (Int × Bool) :=
 match fuel with
 | 0 => none
 | fuel + 1 =>
 zd2 fuel g3 g7 0 0
def zd5 (fuel : Nat) (g3 : Bool) (g7 : ByteArray) : Option (Int × Bool) :=
 match fuel with
 | 0 => none
 | fuel + 1 =>
 (bif (decide ((g7.size : Int) = 0)) then
 some (0, false)
 else
 (bif (decide (17 < (g7.size : Int))) then
 some (0, false)
 else
 (bidx g7 0).bind fun v11 =>
 (bif (decide (v11 = 48)) then
 (bif (decide (1 < (g7.size : Int))) then
 some (0, false)
 else
 (bif g3 then
 some (0, false)
 else
 zd4 fuel g3 g7 ))
 else
 zd4 fuel g3 g7 )))
def zd6 (fuel : Nat) (x1 : ByteArray) (g3 : Bool) : Option (Int × Bool) :=
 match fuel with
 | 0 => none
 | fuel + 1 =>
 (bif g3 then
 (bsub x1 1 (x1.size : Int)).bind fun v6 =>
 zd5 fuel g3 v6
 else
 zd5 fuel g3 x1)
end
def zgh (fuel : Nat) (x1 : ByteArray) : Option (Int × Bool) :=
 (bif (decide (0 < (x1.size : Int))) then
 (bidx x1 0).bind fun v2 =>
 zd6 fuel x1 (decide (v2 = 45))
 else
 zd6 fuel x1 false)
mutual
def zd7 (fuel : Nat) (x1 : ByteArray) (x2 : Int) (g1 : (List ByteArray)) (g2 : Int) (g3 : Int) (g8 : Bool) : Option (List ByteArray) :=
 match fuel with
 | 0 => none
 | fuel + 1 =>
 (bif g8 then
 (bsub x1 g2 g3).bind fun v11 =>
 chk (decide ((g1.length + [v11].length) * 16 ≤ 140737488355328)) <|
 zc9 fuel x1 x2 (g1 ++ [v11]) (w64 (g3 + 1)) (w64 (g3 + 1))
 else
 zc9 fuel x1 x2 g1 g2 (w64 (g3 + 1)))
def zc9 (fuel : Nat) (x1 : ByteArray) (x2 : Int) (g1 : (List ByteArray)) (g2 : Int) (g3 : Int) : Option (List ByteArray) :=
 match fuel with
 | 0 => none
 | fuel + 1 =>
 (bif (decide (g3 ≤ (x1.size : Int))) then
 (bif (decide (g3 = (x1.size : Int))) then
 zd7 fuel x1 x2 g1 g2 g3 true
 else
 (bidx x1 g3).bind fun v7 =>
 zd7 fuel x1 x2 g1 g2 g3 (decide (v7 = x2)))
 else
 some g1)
end
def zhe (fuel : Nat) (x1 : ByteArray) (x2 : Int) : Option (List ByteArray) :=
 zc9 fuel x1 x2 ([] : List ByteArray) 0 0
mutual
def zdV (fuel : Nat) (x1 : ByteArray) (x2 : Int) (g6 : Int) : Option ((List Int) × Int) :=
 match fuel with
 | 0 => none
 | fuel + 1 =>
 (bif (decide (g6 < (x1.size : Int))) then
 (bidx x1 g6).bind fun v9 =>
 (bif (decide (v9 ≠ 125)) then
 zdV fuel x1 x2 (w64 (g6 + 1))
 else
 zdX fuel x1 x2 g6)
 else
 zdX fuel x1 x2 g6)
def zdW (fuel : Nat) (g11 : Int) (v15 : (List ByteArray)) (g16 : (List Int)) (g17 : Int) (g20 : Bool) : Option ((List Int) × Int) :=
 match fuel with
 | 0 => none
 | fuel + 1 =>
 (bif g20 then
 (idx v15 g17).bind fun v23 =>
 (zgh fuel v23).bind fun v24 =>
 (bif (!v24.2) then
 some (g16, (-1))
 else
 chk (decide ((g16.length + [v24.1].length) * 8 ≤ 140737488355328)) <|
 zdU fuel g11 v15 (g16 ++ [v24.1]) (w64 (g17 + 1)))
 else
 some (g16, (w64 (g11 + 1))))
def zdU (fuel : Nat) (g11 : Int) (v15 : (List ByteArray)) (g16 : (List Int)) (g17 : Int) : Option ((List Int) × Int) :=
 match fuel with
 | 0 => none
 | fuel + 1 =>
 (bif (decide (g17 < (v15.length : Int))) then
 zdW fuel g11 v15 g16 g17 (decide (g17 ≤ 24))
 else
 zdW fuel g11 v15 g16 g17 false)
def zdX (fuel : Nat) (x1 : ByteArray) (x2 : Int) (g11 : Int) : Option ((List Int) × Int) :=
 match fuel with
 | 0 => none
 | fuel + 1 =>
 (bif (decide (g11 = (x1.size : Int))) then
 some (([] : List Int), (-1))
 else
 (bsub x1 (w64 (x2 + 1)) g11).bind fun v14 =>
 (zhe fuel v14 44).bind fun v15 =>
 zdU fuel g11 v15 ([] : List Int) 0)
def zdY (fuel : Nat) (x1 : ByteArray) (x2 : Int) (g3 : Bool) : Option ((List Int) × Int) :=
 match fuel with
 | 0 => none
 | fuel + 1 =>
 (bif g3 then
 some (([] : List Int), x2)
 else
 zdV fuel x1 x2 x2)
end
def zhc (fuel : Nat) (x1 : ByteArray) (x2 : Int) : Option ((List Int) × Int) :=
 (bif (decide ((x1.size : Int) ≤ x2)) then
 zdY fuel x1 x2 true
 else
 (bidx x1 x2).bind fun v2 =>
 zdY fuel x1 x2 (decide (v2 ≠ 123)))
def zhd (fuel : Nat) (x1 : ByteArray) (x2 : Int) : Option (Form × Int) :=
 (zhb fuel x1 x2).bind fun v1 =>
 (bsub x1 x2 v1).bind fun v2 =>
 (zgh fuel v2).bind fun v3 =>
 (bif v3.2 then
 some ((Form.mk 2 (⟨#[]⟩ : ByteArray) v3.1 ([] : List Int) ([] : List Form)), v1)
 else
 (bif (decide (v2 = (⟨#[]⟩ : ByteArray))) then
 some ((Form.mk 0 (⟨#[]⟩ : ByteArray) 0 ([] : List Int) ([] : List Form)), (-1))
 else
 (zhc fuel x1 v1).bind fun v6 =>
 some ((Form.mk 1 v2 0 v6.1 ([] : List Form)), v6.2)))
mutual
def zfu (fuel : Nat) (x1 : ByteArray) (x2 : Int) (x3 : Int) : Option (Form × Int) :=
 match fuel with
 | 0 => none
 | fuel + 1 =>
 (zeG fuel x1 x2).bind fun v1 =>
 (bif (decide ((x1.size : Int) ≤ v1)) then
 zd1 fuel x1 x3 v1 true
 else
 zd1 fuel x1 x3 v1 (decide (x3 = 0)))
def zc8 (fuel : Nat) (x1 : ByteArray) (x3 : Int) (g10 : Int) (g11 : (List Form)) (g16 : Bool) : Option (Form × Int) :=
 match fuel with
 | 0 => none
 | fuel + 1 =>
 (bif g16 then
 (zfu fuel x1 g10 (w64 (x3 - 1))).bind fun v19 =>
 (bif (decide (v19.2 < 0)) then
 some ((Form.mk 3 (⟨#[]⟩ : ByteArray) 0 ([] : List Int) g11), (-1))
 else
 chk (decide ((g11.length + [v19.1].length) * 80 ≤ 140737488355328)) <|
 (zeG fuel x1 v19.2).bind fun v22 =>
 zdZ fuel x1 x3 v22 (g11 ++ [v19.1]))
 else
 ze4 fuel x1 g10 g11)
def zdZ (fuel : Nat) (x1 : ByteArray) (x3 : Int) (g10 : Int) (g11 : (List Form)) : Option (Form × Int) :=
 match fuel with
 | 0 => none
 | fuel + 1 =>
 (bif (decide (g10 < (x1.size : Int))) then
 (bidx x1 g10).bind fun v14 =>
 (bif (decide (v14 ≠ 41)) then
 zc8 fuel x1 x3 g10 g11 (decide ((g11.length : Int) < 400))
 else
 zc8 fuel x1 x3 g10 g11 false)
 else
 zc8 fuel x1 x3 g10 g11 false)
def zd0 (fuel : Nat) (g23 : Int) (g24 : (List Form)) (g28 : Bool) : Option (Form × Int) :=
 match fuel with
 | 0 => none
 | fuel + 1 =>
 (bif g28 then
 some ((Form.mk 3 (⟨#[]⟩ : ByteArray) 0 ([] : List Int) g24), (-1))
 else
 some ((Form.mk 3 (⟨#[]⟩ : ByteArray) 0 ([] : List Int) g24), (w64 (g23 + 1))))
def ze4 (fuel : Nat) (x1 : ByteArray) (g23 : Int) (g24 : (List Form)) : Option (Form × Int) :=
 match fuel with
 | 0 => none
 | fuel + 1 =>
 (bif (decide ((x1.size : Int) ≤ g23)) then
 zd0 fuel g23 g24 true
 else
 (bidx x1 g23).bind fun v27 =>
 zd0 fuel g23 g24 (decide (v27 ≠ 41)))
def zd1 (fuel : Nat) (x1 : ByteArray) (x3 : Int) (v1 : Int) (g3 : Bool) : Option (Form × Int) :=
 match fuel with
 | 0 => none
 | fuel + 1 =>
 (bif g3 then
 some ((Form.mk 0 (⟨#[]⟩ : ByteArray) 0 ([] : List Int) ([] : List Form)), (-1))
 else
 (bidx x1 v1).bind fun v6 =>
 (bif (decide (v6 ≠ 40)) then
 (zhd fuel x1 v1).bind fun v8 =>
 some (v8.1, v8.2)
 else
 (zeG fuel x1 (w64 (v1 + 1))).bind fun v9 =>
 zdZ fuel x1 x3 v9 ([] : List Form)))
end
end Go.Abs
