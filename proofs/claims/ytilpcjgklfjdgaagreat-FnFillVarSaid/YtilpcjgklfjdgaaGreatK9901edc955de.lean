/- A part of the proof: what the functions that the law calls answer, as pure values. -/
import Derived.Test.YtilpcjgklfjdgaaGreatK39bd6b35c3c4
set_option linter.unusedSimpArgs false
set_option linter.unusedVariables false
set_option maxHeartbeats 4000000
namespace Go.Abs
def zeG (fuel : Nat) (x1 : Int) (x2 : Bool) : Option Bool :=
 (bif (decide (97 ≤ x1)) then
 (bif (decide (x1 ≤ 122)) then
 some true
 else
 (bif (decide (x1 = 42)) then
 some true
 else
 (bif (decide (x1 = 63)) then
 some true
 else
 (bif (decide (x1 = 61)) then
 some true
 else
 (bif (decide (x1 = 43)) then
 some true
 else
 (bif (decide (x1 = 60)) then
 some true
 else
 (bif (!x2) then
 (bif (decide (48 ≤ x1)) then
 (bif (decide (x1 ≤ 57)) then
 some true
 else
 some (decide (x1 = 45)))
 else
 some (decide (x1 = 45)))
 else
 some false)))))))
 else
 (bif (decide (x1 = 42)) then
 some true
 else
 (bif (decide (x1 = 63)) then
 some true
 else
 (bif (decide (x1 = 61)) then
 some true
 else
 (bif (decide (x1 = 43)) then
 some true
 else
 (bif (decide (x1 = 60)) then
 some true
 else
 (bif (!x2) then
 (bif (decide (48 ≤ x1)) then
 (bif (decide (x1 ≤ 57)) then
 some true
 else
 some (decide (x1 = 45)))
 else
 some (decide (x1 = 45)))
 else
 some false)))))))
def zbl (fuel : Nat) (x1 : ByteArray) (g3 : Int) : Option Bool :=
 match fuel with
 | 0 => none
 | fuel + 1 =>
 (bif (decide (g3 < (x1.size : Int))) then
 (bif (decide (g3 ≤ 12)) then
 (bidx x1 g3).bind fun v7 =>
 (zeG fuel v7 (decide (g3 = 0))).bind fun v8 =>
 (bif (!v8) then
 some false
 else
 zbl fuel x1 (w64 (g3 + 1)))
 else
 (bif (decide (1 ≤ (x1.size : Int))) then
 some (decide ((x1.size : Int) ≤ 12))
 else
 some false))
 else
 (bif (decide (1 ≤ (x1.size : Int))) then
 some (decide ((x1.size : Int) ≤ 12))
 else
 some false))
def zdt (fuel : Nat) (x1 : ByteArray) : Option Bool :=
 (bif (decide (x1 = (⟨#[46, 46, 46]⟩ : ByteArray))) then
 some true
 else
 (bif (decide (x1 = (⟨#[95]⟩ : ByteArray))) then
 some true
 else
 zbl fuel x1 0))
def zbe (fuel : Nat) (x1 : (List Int)) (g1 : Int) : Option Bool :=
 match fuel with
 | 0 => none
 | fuel + 1 =>
 (bif (decide (g1 < (x1.length : Int))) then
 (bif (decide (g1 ≤ 24)) then
 (idx x1 g1).bind fun v5 =>
 (bif (decide (v5 < 1)) then
 some false
 else
 (idx x1 g1).bind fun v7 =>
 (bif (decide (99 < v7)) then
 some false
 else
 (bif (decide (0 < g1)) then
 (idx x1 g1).bind fun v10 =>
 (idx x1 (w64 (g1 - 1))).bind fun v11 =>
 (bif (decide (v10 ≤ v11)) then
 some false
 else
 zbe fuel x1 (w64 (g1 + 1)))
 else
 zbe fuel x1 (w64 (g1 + 1)))))
 else
 some (decide ((x1.length : Int) ≤ 24)))
 else
 some (decide ((x1.length : Int) ≤ 24)))
def zdM (fuel : Nat) (x1 : (List Int)) : Option Bool :=
 zbe fuel x1 0
mutual
def zeH (fuel : Nat) (x1 : Form) (x2 : Int) : Option Bool :=
 match fuel with
 | 0 => none
 | fuel + 1 =>
 (bif (decide (x2 = 0)) then
 some false
 else
 (bif (decide (x1.kind = 1)) then
 (zdt fuel x1.name).bind fun v3 =>
 (bif v3 then
 (bif (decide (x1.n = 0)) then
 (zdM fuel x1.scopes).bind fun v6 =>
 (bif v6 then
 some (decide ((x1.kids.length : Int) = 0))
 else
 some false)
 else
 some false)
 else
 some false)
 else
 (bif (decide (x1.kind = 2)) then
 (bif (decide (x1.name = (⟨#[]⟩ : ByteArray))) then
 (bif (decide (0 ≤ x1.n)) then
 (bif (decide (x1.n ≤ 999)) then
 (bif (decide ((x1.scopes.length : Int) = 0)) then
 some (decide ((x1.kids.length : Int) = 0))
 else
 some false)
 else
 some false)
 else
 some false)
 else
 some false)
 else
 (bif (decide (x1.kind ≠ 3)) then
 some false
 else
 (bif (decide (x1.name ≠ (⟨#[]⟩ : ByteArray))) then
 some false
 else
 (bif (decide (x1.n ≠ 0)) then
 some false
 else
 (bif (decide ((x1.scopes.length : Int) ≠ 0)) then
 some false
 else
 zdF fuel x1 x2 0)))))))
def zdF (fuel : Nat) (x1 : Form) (x2 : Int) (g17 : Int) : Option Bool :=
 match fuel with
 | 0 => none
 | fuel + 1 =>
 (bif (decide (g17 < (x1.kids.length : Int))) then
 (idx x1.kids g17).bind fun v21 =>
 (zeH fuel v21 (w64 (x2 - 1))).bind fun v22 =>
 (bif (!v22) then
 some false
 else
 zdF fuel x1 x2 (g17 + 1))
 else
 some true)
end
mutual
def zc7 (fuel : Nat) (x1 : Form) : Option Int :=
 match fuel with
 | 0 => none
 | fuel + 1 =>
 zbT fuel x1 1 0
def zbT (fuel : Nat) (x1 : Form) (g1 : Int) (g2 : Int) : Option Int :=
 match fuel with
 | 0 => none
 | fuel + 1 =>
 (bif (decide (g2 < (x1.kids.length : Int))) then
 (idx x1.kids g2).bind fun v6 =>
 (zc7 fuel v6).bind fun v7 =>
 zbT fuel x1 (w64 (g1 + v7)) (g2 + 1)
 else
 some g1)
end
def zax (fuel : Nat) (x1 : Form) : Option Bool :=
 (zeH fuel x1 40).bind fun v1 =>
 (bif v1 then
 (zc7 fuel x1).bind fun v3 =>
 some (decide (v3 ≤ 400))
 else
 some false)
def zf2 (fuel : Nat) (x1 : Form) : Option Bool :=
 (bif (decide (x1.kind = 1)) then
 (zax fuel x1).bind fun v2 =>
 some v2
 else
 some false)
def zcU (fuel : Nat) (x1 : (List Int)) (x2 : (List Int)) (g2 : Int) : Option Bool :=
 match fuel with
 | 0 => none
 | fuel + 1 =>
 (bif (decide (g2 < (x1.length : Int))) then
 (idx x1 g2).bind fun v6 =>
 (idx x2 g2).bind fun v7 =>
 (bif (decide (v6 ≠ v7)) then
 some false
 else
 zcU fuel x1 x2 (g2 + 1))
 else
 some true)
def zeT (fuel : Nat) (x1 : (List Int)) (x2 : (List Int)) : Option Bool :=
 (bif (decide ((x1.length : Int) ≠ (x2.length : Int))) then
 some false
 else
 zcU fuel x1 x2 0)
mutual
def zar (fuel : Nat) (x1 : Form) (x2 : Form) : Option Bool :=
 match fuel with
 | 0 => none
 | fuel + 1 =>
 (bif (decide (x1.kind ≠ x2.kind)) then
 some false
 else
 (bif (decide (x1.name ≠ x2.name)) then
 some false
 else
 (bif (decide (x1.n ≠ x2.n)) then
 some false
 else
 (zeT fuel x1.scopes x2.scopes).bind fun v4 =>
 (bif (!v4) then
 some false
 else
 (bif (decide ((x1.kids.length : Int) ≠ (x2.kids.length : Int))) then
 some false
 else
 zb1 fuel x1 x2 0)))))
def zb1 (fuel : Nat) (x1 : Form) (x2 : Form) (g7 : Int) : Option Bool :=
 match fuel with
 | 0 => none
 | fuel + 1 =>
 (bif (decide (g7 < (x1.kids.length : Int))) then
 (idx x1.kids g7).bind fun v11 =>
 (idx x2.kids g7).bind fun v12 =>
 (zar fuel v11 v12).bind fun v13 =>
 (bif (!v13) then
 some false
 else
 zb1 fuel x1 x2 (g7 + 1))
 else
 some true)
end
mutual
def zeF (fuel : Nat) (x1 : Hit) (x2 : Int) : Option Bool :=
 match fuel with
 | 0 => none
 | fuel + 1 =>
 (bif (decide (x1.depth ≠ x2)) then
 some false
 else
 (bif (decide (x2 < 0)) then
 some false
 else
 (bif (decide (3 < x2)) then
 some false
 else
 (zf2 fuel x1.name).bind fun v4 =>
 (bif (!v4) then
 some false
 else
 (bif (decide (x1.name.name = (⟨#[46, 46, 46]⟩ : ByteArray))) then
 some false
 else
 (bif (decide (x1.name.name = (⟨#[95]⟩ : ByteArray))) then
 some false
 else
 (bif (decide (x2 = 0)) then
 (zax fuel x1.one).bind fun v9 =>
 (bif v9 then
 some (decide ((x1.many.length : Int) = 0))
 else
 some false)
 else
 zcI fuel x1 x2 0)))))))
def zcI (fuel : Nat) (x1 : Hit) (x2 : Int) (g11 : Int) : Option Bool :=
 match fuel with
 | 0 => none
 | fuel + 1 =>
 (bif (decide (g11 < (x1.many.length : Int))) then
 (idx x1.many g11).bind fun v15 =>
 (zar fuel v15.name x1.name).bind fun v16 =>
 (bif (!v16) then
 some false
 else
 (idx x1.many g11).bind fun v18 =>
 (zeF fuel v18 (w64 (x2 - 1))).bind fun v19 =>
 (bif (!v19) then
 some false
 else
 zcI fuel x1 x2 (g11 + 1)))
 else
 (zar fuel x1.one (Form.mk 0 (⟨#[]⟩ : ByteArray) 0 ([] : List Int) ([] : List Form))).bind fun v21 =>
 (bif v21 then
 some (decide ((x1.many.length : Int) ≤ 400))
 else
 some false))
end
mutual
def zbm (fuel : Nat) (x1 : (List Hit)) (g1 : Int) (g9 : Int) : Option Bool :=
 match fuel with
 | 0 => none
 | fuel + 1 =>
 (bif (decide (g9 < g1)) then
 (idx x1 g9).bind fun v12 =>
 (idx x1 g1).bind fun v13 =>
 (zar fuel v12.name v13.name).bind fun v14 =>
 (bif v14 then
 some false
 else
 zbm fuel x1 g1 (w64 (g9 + 1)))
 else
 zbn fuel x1 (w64 (g1 + 1)))
def zbn (fuel : Nat) (x1 : (List Hit)) (g1 : Int) : Option Bool :=
 match fuel with
 | 0 => none
 | fuel + 1 =>
 (bif (decide (g1 < (x1.length : Int))) then
 (bif (decide (g1 ≤ 20)) then
 (idx x1 g1).bind fun v5 =>
 (idx x1 g1).bind fun v6 =>
 (zeF fuel v5 v6.depth).bind fun v7 =>
 (bif (!v7) then
 some false
 else
 zbm fuel x1 g1 0)
 else
 some (decide ((x1.length : Int) ≤ 20)))
 else
 some (decide ((x1.length : Int) ≤ 20)))
end
def zek (fuel : Nat) (x1 : (List Hit)) : Option Bool :=
 zbn fuel x1 0
def zaN (fuel : Nat) (x1 : Form) : Option Bool :=
 (bif (decide (x1.kind = 1)) then
 some (decide (x1.name = (⟨#[46, 46, 46]⟩ : ByteArray)))
 else
 some false)
def zbL (fuel : Nat) (x1 : (List Hit)) (x2 : Form) (g1 : Int) : Option Int :=
 match fuel with
 | 0 => none
 | fuel + 1 =>
 (bif (decide (g1 < (x1.length : Int))) then
 (idx x1 g1).bind fun v5 =>
 (zar fuel v5.name x2).bind fun v6 =>
 (bif v6 then
 some g1
 else
 zbL fuel x1 x2 (g1 + 1))
 else
 some (-1))
def zdW (fuel : Nat) (x1 : (List Hit)) (x2 : Form) : Option Int :=
 zbL fuel x1 x2 0
def zeq (fuel : Nat) (x1 : (List Hit)) (x2 : Form) : Option Int :=
 (bif (decide (x2.kind ≠ 1)) then
 some (-1)
 else
 (zdW fuel x1 x2).bind fun v2 =>
 (bif (decide (v2 < 0)) then
 some (-1)
 else
 (idx x1 v2).bind fun v4 =>
 some v4.depth))
mutual
def zdV (fuel : Nat) (x1 : (List Hit)) (x2 : Form) : Option Bool :=
 match fuel with
 | 0 => none
 | fuel + 1 =>
 (zeq fuel x1 x2).bind fun v1 =>
 (bif (decide (0 < v1)) then
 some true
 else
 zb9 fuel x1 x2 0)
def zb9 (fuel : Nat) (x1 : (List Hit)) (x2 : Form) (g3 : Int) : Option Bool :=
 match fuel with
 | 0 => none
 | fuel + 1 =>
 (bif (decide (g3 < (x2.kids.length : Int))) then
 (idx x2.kids g3).bind fun v7 =>
 (zdV fuel x1 v7).bind fun v8 =>
 (bif v8 then
 some true
 else
 zb9 fuel x1 x2 (g3 + 1))
 else
 some false)
end
def zbJ (fuel : Nat) (x1 : (List Hit)) (g1 : (List Hit)) (g2 : Int) : Option (List Hit) :=
 match fuel with
 | 0 => none
 | fuel + 1 =>
 (bif (decide (g2 < (x1.length : Int))) then
 (idx x1 g2).bind fun v6 =>
 (idx x1 g2).bind fun v7 =>
 (idx x1 g2).bind fun v8 =>
 (bif (decide (0 < v7.depth)) then
 chk (decide ((g1.length + [(Hit.mk v6.name (w64 (v7.depth - 1)) v8.one ([] : List Hit))].length) * 192 ≤ 140737488355328)) <|
 zbJ fuel x1 (g1 ++ [(Hit.mk v6.name (w64 (v7.depth - 1)) v8.one ([] : List Hit))]) (g2 + 1)
 else
 chk (decide ((g1.length + [(Hit.mk v6.name v7.depth v8.one ([] : List Hit))].length) * 192 ≤ 140737488355328)) <|
 zbJ fuel x1 (g1 ++ [(Hit.mk v6.name v7.depth v8.one ([] : List Hit))]) (g2 + 1))
 else
 some g1)
def zfF (fuel : Nat) (x1 : (List Hit)) : Option (List Hit) :=
 zbJ fuel x1 ([] : List Hit) 0
mutual
def zde (fuel : Nat) (x1 : Form) (x2 : (List Hit)) : Option Bool :=
 match fuel with
 | 0 => none
 | fuel + 1 =>
 (zaN fuel x1).bind fun v1 =>
 (bif v1 then
 some false
 else
 (zeq fuel x2 x1).bind fun v3 =>
 (bif (decide (0 < v3)) then
 some false
 else
 zbu fuel x1 x2 0))
def zbu (fuel : Nat) (x1 : Form) (x2 : (List Hit)) (g5 : Int) : Option Bool :=
 match fuel with
 | 0 => none
 | fuel + 1 =>
 (bif (decide (g5 < (x1.kids.length : Int))) then
 (idx x1.kids g5).bind fun v9 =>
 (zaN fuel v9).bind fun v10 =>
 (bif v10 then
 (bif (decide (g5 = 0)) then
 some false
 else
 (idx x1.kids (w64 (g5 - 1))).bind fun v13 =>
 (zaN fuel v13).bind fun v14 =>
 (bif v14 then
 some false
 else
 zbu fuel x1 x2 (g5 + 1)))
 else
 (bif (decide ((g5 + 1) < (x1.kids.length : Int))) then
 (idx x1.kids (g5 + 1)).bind fun v17 =>
 (zaN fuel v17).bind fun v18 =>
 (bif v18 then
 (idx x1.kids g5).bind fun v20 =>
 (zdV fuel x2 v20).bind fun v21 =>
 (bif (!v21) then
 some false
 else
 (idx x1.kids g5).bind fun v23 =>
 (zfF fuel x2).bind fun v24 =>
 (zde fuel v23 v24).bind fun v25 =>
 (bif (!v25) then
 some false
 else
 zbu fuel x1 x2 (g5 + 1)))
 else
 (idx x1.kids g5).bind fun v27 =>
 (zde fuel v27 x2).bind fun v28 =>
 (bif (!v28) then
 some false
 else
 zbu fuel x1 x2 (g5 + 1)))
 else
 (idx x1.kids g5).bind fun v30 =>
 (zde fuel v30 x2).bind fun v31 =>
 (bif (!v31) then
 some false
 else
 zbu fuel x1 x2 (g5 + 1))))
 else
 some true)
end
def zcX (fuel : Nat) (x1 : Form) (x2 : (List Hit)) : Option Bool :=
 (zax fuel x1).bind fun v1 =>
 (bif v1 then
 (zek fuel x2).bind fun v3 =>
 (bif v3 then
 (zde fuel x1 x2).bind fun v5 =>
 some v5
 else
 some false)
 else
 some false)
def zbU (fuel : Nat) (x1 : (List Hit)) (g1 : (List Form)) (g2 : (List Int)) (g3 : Int) : Option ((List Form) × (List Int)) :=
 match fuel with
 | 0 => none
 | fuel + 1 =>
 (bif (decide (g3 < (x1.length : Int))) then
 (idx x1 g3).bind fun v7 =>
 chk (decide ((g1.length + [v7.name].length) * 80 ≤ 140737488355328)) <|
 chk (decide ((g2.length + [v7.depth].length) * 8 ≤ 140737488355328)) <|
 zbU fuel x1 (g1 ++ [v7.name]) (g2 ++ [v7.depth]) (g3 + 1)
 else
 some (g1, g2))
def ze6 (fuel : Nat) (x1 : (List Hit)) : Option ((List Form) × (List Int)) :=
 zbU fuel x1 ([] : List Form) ([] : List Int) 0
def zdU (fuel : Nat) (x1 : ByteArray) (x2 : Int) : Option Int :=
 some (Lib.indexByte x1.data.toList x2.toNat.toUInt8)
def zdA (fuel : Nat) (x1 : Int) (x2 : Int) (x3 : Int) : Option Bool :=
 (bif (decide (x2 ≤ x1)) then
 some (decide (x1 ≤ x3))
 else
 some false)
def z4 (fuel : Nat) (x1 : ByteArray) (g3 : Int) : Option Bool :=
 match fuel with
 | 0 => none
 | fuel + 1 =>
 (bif (decide (g3 < (x1.size : Int))) then
 (bidx x1 g3).bind fun v6 =>
 (bif (decide (97 ≤ v6)) then
 (bif (decide (v6 ≤ 122)) then
 z4 fuel x1 (w64 (g3 + 1))
 else
 (zdU fuel (⟨#[42, 63, 61, 43, 60]⟩ : ByteArray) v6).bind fun v9 =>
 (bif (decide (0 ≤ v9)) then
 z4 fuel x1 (w64 (g3 + 1))
 else
 (bif (decide (0 < g3)) then
 (bif (decide (48 ≤ v6)) then
 (bif (decide (v6 ≤ 57)) then
 z4 fuel x1 (w64 (g3 + 1))
 else
 (bif (decide (v6 = 45)) then
 z4 fuel x1 (w64 (g3 + 1))
 else
 some false))
 else
 (bif (decide (v6 = 45)) then
 z4 fuel x1 (w64 (g3 + 1))
 else
 some false))
 else
 some false)))
 else
 (zdU fuel (⟨#[42, 63, 61, 43, 60]⟩ : ByteArray) v6).bind fun v16 =>
 (bif (decide (0 ≤ v16)) then
 z4 fuel x1 (w64 (g3 + 1))
 else
 (bif (decide (0 < g3)) then
 (bif (decide (48 ≤ v6)) then
 (bif (decide (v6 ≤ 57)) then
 z4 fuel x1 (w64 (g3 + 1))
 else
 (bif (decide (v6 = 45)) then
 z4 fuel x1 (w64 (g3 + 1))
 else
 some false))
 else
 (bif (decide (v6 = 45)) then
 z4 fuel x1 (w64 (g3 + 1))
 else
 some false))
 else
 some false)))
 else
 (zdA fuel (x1.size : Int) 1 12).bind fun v23 =>
 some v23)
def zen (fuel : Nat) (x1 : ByteArray) : Option Bool :=
 (bif (decide (x1 = (⟨#[46, 46, 46]⟩ : ByteArray))) then
 some true
 else
 (bif (decide (x1 = (⟨#[95]⟩ : ByteArray))) then
 some true
 else
 z4 fuel x1 0))
def zbg (fuel : Nat) (x1 : (List Int)) (g1 : Int) : Option Bool :=
 match fuel with
 | 0 => none
 | fuel + 1 =>
 (bif (decide (g1 < (x1.length : Int))) then
 (idx x1 g1).bind fun v5 =>
 (zdA fuel v5 1 99).bind fun v6 =>
 (bif (!v6) then
 some false
 else
 (bif (decide (0 < g1)) then
 (idx x1 (w64 (g1 - 1))).bind fun v9 =>
 (bif (decide (v5 ≤ v9)) then
 some false
 else
 zbg fuel x1 (g1 + 1))
 else
 zbg fuel x1 (g1 + 1)))
 else
 some (decide ((x1.length : Int) ≤ 24)))
def zeI (fuel : Nat) (x1 : (List Int)) : Option Bool :=
 zbg fuel x1 0
mutual
def zdZ (fuel : Nat) (x1 : Form) (x2 : Int) (o1 : Int) : Option (Bool × Int) :=
 match fuel with
 | 0 => none
 | fuel + 1 =>
 (bif (decide ((w64 (o1 - 1)) < 0)) then
 some (false, (w64 (o1 - 1)))
 else
 (bif (decide (40 < x2)) then
 some (false, (w64 (o1 - 1)))
 else
 (bif (decide (x1.kind = 1)) then
 (zen fuel x1.name).bind fun v4 =>
 (bif v4 then
 (bif (decide (x1.n = 0)) then
 (zeI fuel x1.scopes).bind fun v7 =>
 (bif v7 then
 some ((decide ((x1.kids.length : Int) = 0)), (w64 (o1 - 1)))
 else
 some (false, (w64 (o1 - 1))))
 else
 some (false, (w64 (o1 - 1))))
 else
 some (false, (w64 (o1 - 1))))
 else
 (bif (decide (x1.kind = 2)) then
 (bif (decide (x1.name = (⟨#[]⟩ : ByteArray))) then
 (zdA fuel x1.n 0 999).bind fun v11 =>
 (bif v11 then
 (bif (decide ((x1.scopes.length : Int) = 0)) then
 some ((decide ((x1.kids.length : Int) = 0)), (w64 (o1 - 1)))
 else
 some (false, (w64 (o1 - 1))))
 else
 some (false, (w64 (o1 - 1))))
 else
 some (false, (w64 (o1 - 1))))
 else
 (bif (decide (x1.kind = 3)) then
 (bif (decide (x1.name ≠ (⟨#[]⟩ : ByteArray))) then
 some (false, (w64 (o1 - 1)))
 else
 (bif (decide (x1.n ≠ 0)) then
 some (false, (w64 (o1 - 1)))
 else
 (bif (decide (0 < (x1.scopes.length : Int))) then
 some (false, (w64 (o1 - 1)))
 else
 zcm fuel x1 x2 0 (w64 (o1 - 1)))))
 else
 some (false, (w64 (o1 - 1))))))))
def zcm (fuel : Nat) (x1 : Form) (x2 : Int) (g19 : Int) (g20 : Int) : Option (Bool × Int) :=
 match fuel with
 | 0 => none
 | fuel + 1 =>
 (bif (decide (g19 < (x1.kids.length : Int))) then
 (idx x1.kids g19).bind fun v24 =>
 (zdZ fuel v24 (w64 (x2 + 1)) g20).bind fun v25 =>
 (bif (!v25.1) then
 some (false, v25.2)
 else
 zcm fuel x1 x2 (g19 + 1) v25.2)
 else
 some (true, g20))
end
def zcn (fuel : Nat) (x1 : Form) : Option Bool :=
 (zdZ fuel x1 1 400).bind fun v1 =>
 some v1.1
def zfR (fuel : Nat) (x1 : Form) : Option Bool :=
 (bif (decide (x1.kind = 1)) then
 (zcn fuel x1).bind fun v2 =>
 some v2
 else
 some false)
def zbp (fuel : Nat) (x1 : (List Int)) (x2 : (List Int)) (g2 : Int) : Option Bool :=
 match fuel with
 | 0 => none
 | fuel + 1 =>
 (bif (decide (g2 < (x1.length : Int))) then
 (idx x1 g2).bind fun v6 =>
 (idx x2 g2).bind fun v7 =>
 (bif (decide (v6 ≠ v7)) then
 some false
 else
 zbp fuel x1 x2 (g2 + 1))
 else
 some true)
def zdy (fuel : Nat) (x1 : (List Int)) (x2 : (List Int)) : Option Bool :=
 (bif (decide ((x1.length : Int) ≠ (x2.length : Int))) then
 some false
 else
 zbp fuel x1 x2 0)
mutual
def zav (fuel : Nat) (x1 : Form) (x2 : Form) : Option Bool :=
 match fuel with
 | 0 => none
 | fuel + 1 =>
 (bif (decide (x1.kind = x2.kind)) then
 (bif (decide (x1.name = x2.name)) then
 (bif (decide (x1.n = x2.n)) then
 (zdy fuel x1.scopes x2.scopes).bind fun v4 =>
 (bif v4 then
 (zaK fuel x1.kids x2.kids).bind fun v6 =>
 some v6
 else
 some false)
 else
 some false)
 else
 some false)
 else
 some false)
def zaK (fuel : Nat) (x1 : (List Form)) (x2 : (List Form)) : Option Bool :=
 match fuel with
 | 0 => none
 | fuel + 1 =>
 (bif (decide ((x1.length : Int) ≠ (x2.length : Int))) then
 some false
 else
 zaa fuel x1 x2 0)
def zaa (fuel : Nat) (x1 : (List Form)) (x2 : (List Form)) (g2 : Int) : Option Bool :=
 match fuel with
 | 0 => none
 | fuel + 1 =>
 (bif (decide (g2 < (x1.length : Int))) then
 (idx x1 g2).bind fun v6 =>
 (idx x2 g2).bind fun v7 =>
 (zav fuel v6 v7).bind fun v8 =>
 (bif (!v8) then
 some false
 else
 zaa fuel x1 x2 (g2 + 1))
 else
 some true)
end
mutual
def zdS (fuel : Nat) (x1 : Hit) : Option Bool :=
 match fuel with
 | 0 => none
 | fuel + 1 =>
 (zfR fuel x1.name).bind fun v1 =>
 (bif (!v1) then
 some false
 else
 (bif (decide (x1.name.name = (⟨#[46, 46, 46]⟩ : ByteArray))) then
 some false
 else
 (bif (decide (x1.name.name = (⟨#[95]⟩ : ByteArray))) then
 some false
 else
 (zdA fuel x1.depth 0 3).bind fun v5 =>
 (bif (!v5) then
 some false
 else
 (bif (decide (x1.depth = 0)) then
 (zcn fuel x1.one).bind fun v8 =>
 (bif v8 then
 some (decide ((x1.many.length : Int) = 0))
 else
 some false)
 else
 (zav fuel x1.one (Form.mk 0 (⟨#[]⟩ : ByteArray) 0 ([] : List Int) ([] : List Form))).bind fun v10 =>
 (bif v10 then
 (bif (decide ((x1.many.length : Int) ≤ 400)) then
 (zaG fuel x1.many x1).bind fun v13 =>
 some (!v13)
 else
 some false)
 else
 some false))))))
def zdG (fuel : Nat) (x1 : Hit) (o1 : Hit) : Option Bool :=
 match fuel with
 | 0 => none
 | fuel + 1 =>
 (zav fuel x1.name o1.name).bind fun v1 =>
 (bif (!v1) then
 some true
 else
 (bif (decide (x1.depth ≠ (w64 (o1.depth - 1)))) then
 some true
 else
 (zdS fuel x1).bind fun v4 =>
 some (!v4)))
def zaG (fuel : Nat) (x1 : (List Hit)) (o1 : Hit) : Option Bool :=
 match fuel with
 | 0 => none
 | fuel + 1 =>
 (zaT fuel x1 o1).bind fun v1 =>
 some (decide (0 ≤ v1))
def zaT (fuel : Nat) (x1 : (List Hit)) (o1 : Hit) : Option Int :=
 match fuel with
 | 0 => none
 | fuel + 1 =>
 zaf fuel x1 o1 0
def zaf (fuel : Nat) (x1 : (List Hit)) (o1 : Hit) (g1 : Int) : Option Int :=
 match fuel with
 | 0 => none
 | fuel + 1 =>
 (bif (decide (g1 < (x1.length : Int))) then
 (idx x1 g1).bind fun v5 =>
 (zdG fuel v5 o1).bind fun v6 =>
 (bif v6 then
 some g1
 else
 zaf fuel x1 o1 (g1 + 1))
 else
 some (-1))
end
def zdH (fuel : Nat) (x1 : Hit) (o1 : Form) : Option Bool :=
 (zav fuel x1.name o1).bind fun v1 =>
 some v1
def zP (fuel : Nat) (x1 : (List Hit)) (o1 : Form) (g1 : Int) : Option Int :=
 match fuel with
 | 0 => none
 | fuel + 1 =>
 (bif (decide (g1 < (x1.length : Int))) then
 (idx x1 g1).bind fun v5 =>
 (zdH fuel v5 o1).bind fun v6 =>
 (bif v6 then
 some g1
 else
 zP fuel x1 o1 (g1 + 1))
 else
 some (-1))
def zaU (fuel : Nat) (x1 : (List Hit)) (o1 : Form) : Option Int :=
 zP fuel x1 o1 0
def zeJ (fuel : Nat) (x1 : (List Hit)) (x2 : Form) : Option Int :=
 (zaU fuel x1 x2).bind fun v1 =>
 some v1
def zbs (fuel : Nat) (x1 : (List Hit)) (g1 : Int) : Option Bool :=
 match fuel with
 | 0 => none
 | fuel + 1 =>
 (bif (decide (g1 < (x1.length : Int))) then
 (idx x1 g1).bind fun v5 =>
 (zdS fuel v5).bind fun v6 =>
 (bif (!v6) then
 some false
 else
 (sub x1 0 g1).bind fun v8 =>
 (zeJ fuel v8 v5.name).bind fun v9 =>
 (bif (decide (0 ≤ v9)) then
 some false
 else
 zbs fuel x1 (g1 + 1)))
 else
 some (decide ((x1.length : Int) ≤ 20)))
def zdu (fuel : Nat) (x1 : (List Hit)) : Option Bool :=
 zbs fuel x1 0
def zcl (fuel : Nat) (x1 : Form) (x2 : ByteArray) : Option Bool :=
 (bif (decide (x1.kind = 1)) then
 some (decide (x1.name = x2))
 else
 some false)
def zeK (fuel : Nat) (x1 : Form) : Option Bool :=
 (zcl fuel x1 (⟨#[46, 46, 46]⟩ : ByteArray)).bind fun v1 =>
 some v1
def z9 (fuel : Nat) (x1 : (List Form)) (g1 : Int) : Option Int :=
 match fuel with
 | 0 => none
 | fuel + 1 =>
 (bif (decide (g1 < (x1.length : Int))) then
 (idx x1 g1).bind fun v5 =>
 (zeK fuel v5).bind fun v6 =>
 (bif v6 then
 some g1
 else
 z9 fuel x1 (g1 + 1))
 else
 some (-1))
def zbi (fuel : Nat) (x1 : (List Form)) : Option Int :=
 z9 fuel x1 0
def zgv (fuel : Nat) (x1 : (List Form)) : Option Int :=
 (zbi fuel x1).bind fun v1 =>
 some v1
mutual
def zdC (fuel : Nat) (x1 : Form) (x2 : Bool) : Option Bool :=
 match fuel with
 | 0 => none
 | fuel + 1 =>
 zbx fuel x1 x2 0
def zbx (fuel : Nat) (x1 : Form) (x2 : Bool) (g1 : Int) : Option Bool :=
 match fuel with
 | 0 => none
 | fuel + 1 =>
 (bif (decide (g1 < (x1.kids.length : Int))) then
 (idx x1.kids g1).bind fun v5 =>
 (zcl fuel v5 (⟨#[46, 46, 46]⟩ : ByteArray)).bind fun v6 =>
 (bif v6 then
 (bif (decide (g1 = 0)) then
 some false
 else
 (idx x1.kids (w64 (g1 - 1))).bind fun v9 =>
 (zcl fuel v9 (⟨#[46, 46, 46]⟩ : ByteArray)).bind fun v10 =>
 (bif v10 then
 some false
 else
 (bif x2 then
 (sub x1.kids 0 g1).bind fun v13 =>
 (zgv fuel v13).bind fun v14 =>
 (bif (decide (0 ≤ v14)) then
 some false
 else
 zbx fuel x1 x2 (g1 + 1))
 else
 zbx fuel x1 x2 (g1 + 1))))
 else
 (zdC fuel v5 x2).bind fun v16 =>
 (bif (!v16) then
 some false
 else
 zbx fuel x1 x2 (g1 + 1)))
 else
 some true)
end
def zem (fuel : Nat) (x1 : Form) (o1 : Form) : Option Bool :=
 (zav fuel x1 o1).bind fun v1 =>
 some v1
def z7 (fuel : Nat) (x1 : (List Form)) (o1 : Form) (g1 : Int) : Option Int :=
 match fuel with
 | 0 => none
 | fuel + 1 =>
 (bif (decide (g1 < (x1.length : Int))) then
 (idx x1 g1).bind fun v5 =>
 (zem fuel v5 o1).bind fun v6 =>
 (bif v6 then
 some g1
 else
 z7 fuel x1 o1 (g1 + 1))
 else
 some (-1))
def zbf (fuel : Nat) (x1 : (List Form)) (o1 : Form) : Option Int :=
 z7 fuel x1 o1 0
def zeu (fuel : Nat) (x1 : (List Form)) (x2 : (List Int)) (x3 : Form) : Option Int :=
 (bif (decide (x3.kind ≠ 1)) then
 some (-1)
 else
 (zbf fuel x1 x3).bind fun v2 =>
 (bif (decide (v2 < 0)) then
 some (-1)
 else
 (idx x2 v2).bind fun v4 =>
 some v4))
def zfQ (fuel : Nat) (x1 : Form) (o1 : Bool) (o2 : (List Form)) (o3 : (List Int)) (o4 : Int) : Option Bool :=
 (bif o1 then
 some true
 else
 (zeu fuel o2 o3 x1).bind fun v2 =>
 some (decide (o4 < v2)))
mutual
def zaR (fuel : Nat) (x1 : Form) (o1 : Bool) (o2 : (List Form)) (o3 : (List Int)) (o4 : Int) : Option Bool :=
 match fuel with
 | 0 => none
 | fuel + 1 =>
 (zfQ fuel x1 o1 o2 o3 o4).bind fun v1 =>
 zas fuel x1 o2 o3 o4 0 v1
def zas (fuel : Nat) (x1 : Form) (o2 : (List Form)) (o3 : (List Int)) (o4 : Int) (g2 : Int) (g3 : Bool) : Option Bool :=
 match fuel with
 | 0 => none
 | fuel + 1 =>
 (bif (decide (g2 < (x1.kids.length : Int))) then
 (idx x1.kids g2).bind fun v7 =>
 (zaR fuel v7 g3 o2 o3 o4).bind fun v8 =>
 zas fuel x1 o2 o3 o4 (g2 + 1) v8
 else
 some g3)
end
mutual
def zcB (fuel : Nat) (x1 : Form) (x2 : (List Form)) (x3 : (List Int)) (x4 : Int) : Option Bool :=
 match fuel with
 | 0 => none
 | fuel + 1 =>
 (zeu fuel x2 x3 x1).bind fun v1 =>
 (bif (decide (x4 < v1)) then
 some false
 else
 zaO fuel x1 x2 x3 x4 0)
def zaO (fuel : Nat) (x1 : Form) (x2 : (List Form)) (x3 : (List Int)) (x4 : Int) (g3 : Int) : Option Bool :=
 match fuel with
 | 0 => none
 | fuel + 1 =>
 (bif (decide (g3 < (x1.kids.length : Int))) then
 (idx x1.kids g3).bind fun v7 =>
 (zcl fuel v7 (⟨#[46, 46, 46]⟩ : ByteArray)).bind fun v8 =>
 (bif v8 then
 zaO fuel x1 x2 x3 x4 (g3 + 1)
 else
 (bif (decide ((g3 + 1) < (x1.kids.length : Int))) then
 (idx x1.kids (g3 + 1)).bind fun v11 =>
 (zcl fuel v11 (⟨#[46, 46, 46]⟩ : ByteArray)).bind fun v12 =>
 (bif v12 then
 (zaR fuel v7 false x2 x3 x4).bind fun v14 =>
 (bif (!v14) then
 some false
 else
 (zcB fuel v7 x2 x3 (w64 (x4 + 1))).bind fun v16 =>
 (bif (!v16) then
 some false
 else
 zaO fuel x1 x2 x3 x4 (g3 + 1)))
 else
 (zcB fuel v7 x2 x3 x4).bind fun v18 =>
 (bif (!v18) then
 some false
 else
 zaO fuel x1 x2 x3 x4 (g3 + 1)))
 else
 (zcB fuel v7 x2 x3 x4).bind fun v20 =>
 (bif (!v20) then
 some false
 else
 zaO fuel x1 x2 x3 x4 (g3 + 1))))
 else
 some true)
end
def zdO (fuel : Nat) (x1 : Form) (x2 : (List Form)) (x3 : (List Int)) : Option Bool :=
 (zcn fuel x1).bind fun v1 =>
 (bif v1 then
 (zcl fuel x1 (⟨#[46, 46, 46]⟩ : ByteArray)).bind fun v3 =>
 (bif (!v3) then
 (zdC fuel x1 false).bind fun v5 =>
 (bif v5 then
 (zcB fuel x1 x2 x3 0).bind fun v7 =>
 some v7
 else
 some false)
 else
 some false)
 else
 some false)
def zcZ (fuel : Nat) (x1 : Form) (x2 : (List Hit)) : Option Bool :=
 (ze6 fuel x2).bind fun v1 =>
 (zdu fuel x2).bind fun v2 =>
 (bif v2 then
 (zdO fuel x1 v1.1 v1.2).bind fun v4 =>
 some v4
 else
 some false)
def zc5 (fuel : Nat) (x1 : (List Form)) (x2 : Form) (g1 : Int) : Option Bool :=
 match fuel with
 | 0 => none
 | fuel + 1 =>
 (bif (decide (g1 < (x1.length : Int))) then
 (idx x1 g1).bind fun v5 =>
 (zar fuel v5 x2).bind fun v6 =>
 (bif v6 then
 some true
 else
 zc5 fuel x1 x2 (g1 + 1))
 else
 some false)
def zeE (fuel : Nat) (x1 : (List Form)) (x2 : Form) : Option Bool :=
 zc5 fuel x1 x2 0
def za4 (fuel : Nat) (x1 : (List Form)) (g1 : Int) : Option Bool :=
 match fuel with
 | 0 => none
 | fuel + 1 =>
 (bif (decide (g1 < (x1.length : Int))) then
 (bif (decide (g1 < 10)) then
 (idx x1 g1).bind fun v5 =>
 (zf2 fuel v5).bind fun v6 =>
 (bif (!v6) then
 some false
 else
 (idx x1 g1).bind fun v8 =>
 (bif (decide (v8.name = (⟨#[46, 46, 46]⟩ : ByteArray))) then
 some false
 else
 (idx x1 g1).bind fun v10 =>
 (bif (decide (v10.name = (⟨#[95]⟩ : ByteArray))) then
 some false
 else
 (sub x1 0 g1).bind fun v12 =>
 (idx x1 g1).bind fun v13 =>
 (zeE fuel v12 v13).bind fun v14 =>
 (bif v14 then
 some false
 else
 za4 fuel x1 (w64 (g1 + 1))))))
 else
 some (decide ((x1.length : Int) < 10)))
 else
 some (decide ((x1.length : Int) < 10)))
def zdb (fuel : Nat) (x1 : (List Form)) : Option Bool :=
 za4 fuel x1 0
mutual
def zdE (fuel : Nat) (x1 : Form) : Option Bool :=
 match fuel with
 | 0 => none
 | fuel + 1 =>
 (zaN fuel x1).bind fun v1 =>
 (bif v1 then
 some false
 else
 zbB fuel x1 0 0)
def zbB (fuel : Nat) (x1 : Form) (g3 : Int) (g4 : Int) : Option Bool :=
 match fuel with
 | 0 => none
 | fuel + 1 =>
 (bif (decide (g4 < (x1.kids.length : Int))) then
 (idx x1.kids g4).bind fun v8 =>
 (zaN fuel v8).bind fun v9 =>
 (bif v9 then
 (bif (decide (g4 = 0)) then
 some false
 else
 (idx x1.kids (w64 (g4 - 1))).bind fun v12 =>
 (zaN fuel v12).bind fun v13 =>
 (bif v13 then
 some false
 else
 zbB fuel x1 (w64 (g3 + 1)) (g4 + 1)))
 else
 (idx x1.kids g4).bind fun v15 =>
 (zdE fuel v15).bind fun v16 =>
 (bif (!v16) then
 some false
 else
 zbB fuel x1 g3 (g4 + 1)))
 else
 some (decide (g3 ≤ 1)))
end
def zfz (fuel : Nat) (x1 : Form) (x2 : (List Form)) : Option Bool :=
 (bif (decide (x1.kind = 1)) then
 (bif (decide (x1.name ≠ (⟨#[46, 46, 46]⟩ : ByteArray))) then
 (bif (decide (x1.name ≠ (⟨#[95]⟩ : ByteArray))) then
 (zeE fuel x2 x1).bind fun v4 =>
 some (!v4)
 else
 some false)
 else
 some false)
 else
 some false)
mutual
def zcA (fuel : Nat) (x1 : (List Form)) (x2 : Form) (x3 : (List Form)) : Option (List Form) :=
 match fuel with
 | 0 => none
 | fuel + 1 =>
 (zfz fuel x2 x3).bind fun v1 =>
 (bif v1 then
 chk (decide ((x1.length + [x2].length) * 80 ≤ 140737488355328)) <|
 zaE fuel x2 x3 (x1 ++ [x2]) 0
 else
 zaE fuel x2 x3 x1 0)
def zaE (fuel : Nat) (x2 : Form) (x3 : (List Form)) (g4 : (List Form)) (g5 : Int) : Option (List Form) :=
 match fuel with
 | 0 => none
 | fuel + 1 =>
 (bif (decide (g5 < (x2.kids.length : Int))) then
 (idx x2.kids g5).bind fun v9 =>
 (zcA fuel g4 v9 x3).bind fun v10 =>
 zaE fuel x2 x3 v10 (g5 + 1)
 else
 some g4)
end
mutual
def zaP (fuel : Nat) (x1 : (List Int)) (x2 : Form) (x3 : (List Form)) (x4 : Int) : Option (List Int) :=
 match fuel with
 | 0 => none
 | fuel + 1 =>
 (zfz fuel x2 x3).bind fun v1 =>
 (bif v1 then
 chk (decide ((x1.length + [x4].length) * 8 ≤ 140737488355328)) <|
 zab fuel x2 x3 x4 (x1 ++ [x4]) 0
 else
 zab fuel x2 x3 x4 x1 0)
def zab (fuel : Nat) (x2 : Form) (x3 : (List Form)) (x4 : Int) (g4 : (List Int)) (g5 : Int) : Option (List Int) :=
 match fuel with
 | 0 => none
 | fuel + 1 =>
 (bif (decide (g5 < (x2.kids.length : Int))) then
 (bif (decide ((g5 + 1) < (x2.kids.length : Int))) then
 (idx x2.kids (g5 + 1)).bind fun v10 =>
 (zaN fuel v10).bind fun v11 =>
 (bif v11 then
 (idx x2.kids g5).bind fun v13 =>
 (zaP fuel g4 v13 x3 (w64 (x4 + 1))).bind fun v14 =>
 zab fuel x2 x3 x4 v14 (g5 + 1)
 else
 (idx x2.kids g5).bind fun v15 =>
 (zaP fuel g4 v15 x3 x4).bind fun v16 =>
 zab fuel x2 x3 x4 v16 (g5 + 1))
 else
 (idx x2.kids g5).bind fun v17 =>
 (zaP fuel g4 v17 x3 x4).bind fun v18 =>
 zab fuel x2 x3 x4 v18 (g5 + 1))
 else
 some g4)
end
mutual
def zc3 (fuel : Nat) (g9 : (List Form)) (v17 : (List Int)) (g18 : Int) : Option Bool :=
 match fuel with
 | 0 => none
 | fuel + 1 =>
 (bif (decide (g18 < (v17.length : Int))) then
 (idx v17 g18).bind fun v22 =>
 (bif (decide (3 < v22)) then
 some false
 else
 zc3 fuel g9 v17 (g18 + 1))
 else
 some (decide ((g9.length : Int) ≤ 20)))
def zc4 (fuel : Nat) (x1 : Form) (x2 : (List Form)) (g8 : Int) (g9 : (List Form)) : Option Bool :=
 match fuel with
 | 0 => none
 | fuel + 1 =>
 (bif (decide (g8 < (g9.length : Int))) then
 (sub g9 0 g8).bind fun v13 =>
 (idx g9 g8).bind fun v14 =>
 (zeE fuel v13 v14).bind fun v15 =>
 (bif v15 then
 some false
 else
 zc4 fuel x1 x2 (g8 + 1) g9)
 else
 (zaP fuel ([] : List Int) x1 x2 0).bind fun v17 =>
 zc3 fuel g9 v17 0)
end
def zf1 (fuel : Nat) (x1 : Form) (x2 : (List Form)) : Option Bool :=
 (zax fuel x1).bind fun v1 =>
 (bif (!v1) then
 some false
 else
 (zdb fuel x2).bind fun v3 =>
 (bif (!v3) then
 some false
 else
 (zdE fuel x1).bind fun v5 =>
 (bif (!v5) then
 some false
 else
 (zcA fuel ([] : List Form) x1 x2).bind fun v7 =>
 zc4 fuel x1 x2 0 v7)))
def zbz (fuel : Nat) (v1 : (List Form)) (v2 : (List Int)) (g3 : (List Hit)) (g4 : Int) : Option (List Hit) :=
 match fuel with
 | 0 => none
 | fuel + 1 =>
 (bif (decide (g4 < (v1.length : Int))) then
 (idx v1 g4).bind fun v8 =>
 (idx v2 g4).bind fun v9 =>
 (bif (decide (v9 = 0)) then
 (idx v1 g4).bind fun v11 =>
 chk (decide ((g3.length + [(Hit.mk v8 v9 v11 ([] : List Hit))].length) * 192 ≤ 140737488355328)) <|
 zbz fuel v1 v2 (g3 ++ [(Hit.mk v8 v9 v11 ([] : List Hit))]) (g4 + 1)
 else
 chk (decide ((g3.length + [(Hit.mk v8 v9 (Form.mk 0 (⟨#[]⟩ : ByteArray) 0 ([] : List Int) ([] : List Form)) ([] : List Hit))].length) * 192 ≤ 140737488355328)) <|
 zbz fuel v1 v2 (g3 ++ [(Hit.mk v8 v9 (Form.mk 0 (⟨#[]⟩ : ByteArray) 0 ([] : List Int) ([] : List Form)) ([] : List Hit))]) (g4 + 1))
 else
 some g3)
def ze1 (fuel : Nat) (x1 : Form) (x2 : (List Form)) : Option (List Hit) :=
 (zcA fuel ([] : List Form) x1 x2).bind fun v1 =>
 (zaP fuel ([] : List Int) x1 x2 0).bind fun v2 =>
 zbz fuel v1 v2 ([] : List Hit) 0
def zc0 (fuel : Nat) (x1 : Rule) (x2 : (List Form)) : Option Bool :=
 (zf1 fuel x1.pattern x2).bind fun v1 =>
 (bif v1 then
 (bif (decide (x1.pattern.kind = 3)) then
 (bif (decide (0 < (x1.pattern.kids.length : Int))) then
 (zax fuel x1.template).bind fun v5 =>
 (bif v5 then
 (ze1 fuel x1.pattern x2).bind fun v7 =>
 (zde fuel x1.template v7).bind fun v8 =>
 some v8
 else
 some false)
 else
 some false)
 else
 some false)
 else
 some false)
def zgh (fuel : Nat) (x1 : Rule) (x2 : (List Form)) : Option Bool :=
 (zc0 fuel x1 x2).bind fun v1 =>
 some v1
def zer (fuel : Nat) (x1 : (List Int)) : Option za3 :=
 (bif (decide (2000 < (x1.length : Int))) then
 (sub x1 0 2000).bind fun v3 =>
 some (za3.mk v3 0)
 else
 some (za3.mk x1 0))
def zL (fuel : Nat) (o1 : za3) (x2 : Int) : Option (Int × za3) :=
 (bif (decide (x2 < 1)) then
 some (0, (za3.mk o1.b (w64 (o1.p + 1))))
 else
 (bif (decide ((o1.b.length : Int) = 0)) then
 some (0, (za3.mk o1.b (w64 (o1.p + 1))))
 else
 (bif (decide ((w64 ((w64 (o1.p + 1)) - 1)) < (o1.b.length : Int))) then
 (idx o1.b (w64 ((w64 (o1.p + 1)) - 1))).bind fun v4 =>
 chk (decide (x2 ≠ 0)) <|
 some (((w64 v4).tmod x2), (za3.mk o1.b (w64 (o1.p + 1))))
 else
 chk (decide ((o1.b.length : Int) ≠ 0)) <|
 (idx o1.b ((w64 ((w64 (o1.p + 1)) - 1)).tmod (o1.b.length : Int))).bind fun v7 =>
 chk (decide ((o1.b.length : Int) ≠ 0)) <|
 (idx o1.b ((w64 ((w64 ((w64 ((w64 (o1.p + 1)) - 1)) * 7)) + 3)).tmod (o1.b.length : Int))).bind fun v9 =>
 chk (decide ((o1.b.length : Int) ≠ 0)) <|
 chk (decide (x2 ≠ 0)) <|
 some (((xor64 (w64 ((w64 ((w64 ((w64 ((w64 v7) * 131)) + (w64 ((w64 v9) * 1117)))) + (w64 ((w64 ((w64 (o1.p + 1)) - 1)) * 29)))) + (w64 ((w64 ((w64 ((w64 (o1.p + 1)) - 1)).tdiv (o1.b.length : Int))) * 53)))) (w64 ((w64 ((w64 ((w64 ((w64 ((w64 v7) * 131)) + (w64 ((w64 v9) * 1117)))) + (w64 ((w64 ((w64 (o1.p + 1)) - 1)) * 29)))) + (w64 ((w64 ((w64 ((w64 (o1.p + 1)) - 1)).tdiv (o1.b.length : Int))) * 53)))).tdiv 64))).tmod x2), (za3.mk o1.b (w64 (o1.p + 1)))))))
def zd5 (fuel : Nat) (x1 : ByteArray) (g1 : Int) : Option Int :=
 match fuel with
 | 0 => none
 | fuel + 1 =>
 (bif (decide (g1 < (x1.size : Int))) then
 (bidx x1 g1).bind fun v4 =>
 (bif (decide (v4 = 32)) then
 zd5 fuel x1 (w64 (g1 + 1))
 else
 some g1)
 else
 some g1)
def zeS (fuel : Nat) (x1 : ByteArray) (x2 : Int) : Option Int :=
 zd5 fuel x1 x2
def zd4 (fuel : Nat) (x1 : ByteArray) (g1 : Int) : Option Int :=
 match fuel with
 | 0 => none
 | fuel + 1 =>
 (bif (decide (g1 < (x1.size : Int))) then
 (bidx x1 g1).bind fun v4 =>
 (bif (decide (v4 ≠ 32)) then
 (bidx x1 g1).bind fun v6 =>
 (bif (decide (v6 ≠ 40)) then
 (bidx x1 g1).bind fun v8 =>
 (bif (decide (v8 ≠ 41)) then
 (bidx x1 g1).bind fun v10 =>
 (bif (decide (v10 ≠ 123)) then
 zd4 fuel x1 (w64 (g1 + 1))
 else
 some g1)
 else
 some g1)
 else
 some g1)
 else
 some g1)
 else
 some g1)
def zhk (fuel : Nat) (x1 : ByteArray) (x2 : Int) : Option Int :=
 zd4 fuel x1 x2
end Go.Abs
