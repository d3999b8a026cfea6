/- A part of the proof: what the functions that the law calls answer, as pure values. -/
import Derived.Test.YtjjjnhpghhamkaaGreatKdf42b12638b4
import Derived.Test.YtjjjnhpghhamkaaGreatKac1bd4e93480
import Derived.Test.YtjjjnhpghhamkaaGreatK7ac0b3551e5d
set_option linter.unusedSimpArgs false
set_option linter.unusedVariables false
set_option maxHeartbeats 4000000
namespace Go.Abs
def zdg (fuel : Nat) (x1 : (List Bind)) (x2 : Form) (x3 : (List Form)) (x4 : Form) : Option ((List Hit) × Bool) :=
 (zdc fuel x1).bind fun v1 =>
 (bif (!v1) then
 zaC fuel x1 x2 x3 x4 true
 else
 (zf6 fuel x2 x3).bind fun v3 =>
 (bif (!v3) then
 zaC fuel x1 x2 x3 x4 true
 else
 (zay fuel x4).bind fun v5 =>
 zaC fuel x1 x2 x3 x4 (!v5)))
mutual
def zbt (fuel : Nat) (x1 : (List Bind)) (x2 : (List Rule)) (x3 : (List Form)) (x4 : Form) (g9 : Int) : Option (Int × Bool) :=
 match fuel with
 | 0 => none
 | fuel + 1 =>
 (bif (decide (g9 < (x2.length : Int))) then
 (idx x2 g9).bind fun v13 =>
 (zb0 fuel x1 v13.pattern x3 x4).bind fun v14 =>
 (bif v14.2 then
 some (g9, true)
 else
 zbt fuel x1 x2 x3 x4 (g9 + 1))
 else
 some (0, false))
def zaZ (fuel : Nat) (x1 : (List Bind)) (x2 : (List Rule)) (x3 : (List Form)) (x4 : Form) (g6 : Bool) : Option (Int × Bool) :=
 match fuel with
 | 0 => none
 | fuel + 1 =>
 (bif g6 then
 some (0, false)
 else
 zbt fuel x1 x2 x3 x4 0)
end
def zeo (fuel : Nat) (x1 : (List Bind)) (x2 : (List Rule)) (x3 : (List Form)) (x4 : Form) : Option (Int × Bool) :=
 (zdc fuel x1).bind fun v1 =>
 (bif (!v1) then
 zaZ fuel x1 x2 x3 x4 true
 else
 (zeu fuel x2 x3).bind fun v3 =>
 (bif (!v3) then
 zaZ fuel x1 x2 x3 x4 true
 else
 (zay fuel x4).bind fun v5 =>
 zaZ fuel x1 x2 x3 x4 (!v5)))
mutual
def zdw (fuel : Nat) (o1 : za4) (x2 : Int) : Option (Form × za4) :=
 match fuel with
 | 0 => none
 | fuel + 1 =>
 (bif (decide (x2 = 0)) then
 (zL fuel o1 4).bind fun v2 =>
 (bif (decide (v2.1 = 0)) then
 (zam fuel v2.2 [0, 1, 2, 7, 42, 999]).bind fun v4 =>
 some ((Form.mk 2 (⟨#[]⟩ : ByteArray) v4.1 ([] : List Int) ([] : List Form)), v4.2)
 else
 (zbo fuel v2.2 [(⟨#[97]⟩ : ByteArray), (⟨#[98]⟩ : ByteArray), (⟨#[120]⟩ : ByteArray), (⟨#[121]⟩ : ByteArray), (⟨#[102]⟩ : ByteArray), (⟨#[105, 102]⟩ : ByteArray), (⟨#[108, 101, 116]⟩ : ByteArray), (⟨#[43]⟩ : ByteArray)]).bind fun v5 =>
 (zd2 fuel v5.1).bind fun v6 =>
 some (v6, v5.2))
 else
 (zL fuel o1 3).bind fun v7 =>
 (bif (decide (v7.1 = 0)) then
 (zL fuel v7.2 4).bind fun v9 =>
 (bif (decide (v9.1 = 0)) then
 (zam fuel v9.2 [0, 1, 2, 7, 42, 999]).bind fun v11 =>
 some ((Form.mk 2 (⟨#[]⟩ : ByteArray) v11.1 ([] : List Int) ([] : List Form)), v11.2)
 else
 (zbo fuel v9.2 [(⟨#[97]⟩ : ByteArray), (⟨#[98]⟩ : ByteArray), (⟨#[120]⟩ : ByteArray), (⟨#[121]⟩ : ByteArray), (⟨#[102]⟩ : ByteArray), (⟨#[105, 102]⟩ : ByteArray), (⟨#[108, 101, 116]⟩ : ByteArray), (⟨#[43]⟩ : ByteArray)]).bind fun v12 =>
 (zd2 fuel v12.1).bind fun v13 =>
 some (v13, v12.2))
 else
 (zL fuel v7.2 4).bind fun v14 =>
 zcm fuel x2 v14.1 v14.2.b v14.2.p ([] : List Form)))
def zcm (fuel : Nat) (x2 : Int) (g15 : Int) (g16 : (List Int)) (g17 : Int) (g18 : (List Form)) : Option (Form × za4) :=
 match fuel with
 | 0 => none
 | fuel + 1 =>
 (bif (decide (0 < g15)) then
 (zdw fuel (za4.mk g16 g17) (w64 (x2 - 1))).bind fun v21 =>
 chk (decide ((g18.length + [v21.1].length) * 80 ≤ 140737488355328)) <|
 zcm fuel x2 (w64 (g15 - 1)) v21.2.b v21.2.p (g18 ++ [v21.1])
 else
 some ((Form.mk 3 (⟨#[]⟩ : ByteArray) 0 ([] : List Int) g18), (za4.mk g16 g17)))
end
def zfJ (fuel : Nat) (x1 : (List Int)) : Option (Form × (List Hit)) :=
 (zfK fuel x1).bind fun v1 =>
 (zew fuel x1).bind fun v2 =>
 (zeo fuel ([] : List Bind) v1.2.1 v1.1 v1.2.2).bind fun v3 =>
 (bif (!v3.2) then
 (zdw fuel v2 2).bind fun v5 =>
 some (v5.1, ([] : List Hit))
 else
 (idx v1.2.1 v3.1).bind fun v6 =>
 (zdg fuel ([] : List Bind) v6.pattern v1.1 v1.2.2).bind fun v7 =>
 (idx v1.2.1 v3.1).bind fun v8 =>
 (zaY fuel v8.template).bind fun v9 =>
 (zL fuel v2 12).bind fun v10 =>
 (bif (decide (v10.1 = 0)) then
 (zaj fuel v10.2 v9).bind fun v12 =>
 (zaj fuel v12.2 v12.1).bind fun v13 =>
 some (v13.1, v7.1)
 else
 (bif (decide (v10.1 = 1)) then
 (zbo fuel v10.2 [(⟨#[40, 97, 32, 46, 46, 46, 41]⟩ : ByteArray), (⟨#[40, 120, 32, 46, 46, 46, 32, 46, 46, 46, 41]⟩ : ByteArray), (⟨#[46, 46, 46]⟩ : ByteArray), (⟨#[40, 49, 32, 46, 46, 46, 41]⟩ : ByteArray), (⟨#[40, 113, 32, 40, 97, 32, 98, 41, 32, 46, 46, 46, 41]⟩ : ByteArray)]).bind fun v15 =>
 (zc6 fuel v15.1).bind fun v16 =>
 some (v16, v7.1)
 else
 some (v9, v7.1))))
mutual
def zcL (fuel : Nat) (x1 : Form) : Option Int :=
 match fuel with
 | 0 => none
 | fuel + 1 =>
 zbG fuel x1 1 0
def zbG (fuel : Nat) (x1 : Form) (g1 : Int) (g2 : Int) : Option Int :=
 match fuel with
 | 0 => none
 | fuel + 1 =>
 (bif (decide (g2 < (x1.kids.length : Int))) then
 (idx x1.kids g2).bind fun v6 =>
 (zcL fuel v6).bind fun v7 =>
 zbG fuel x1 (w64 (g1 + v7)) (g2 + 1)
 else
 some g1)
end
def zc1 (fuel : Nat) (x1 : (List Int)) : Option (Form × (List Hit)) :=
 (zfJ fuel x1).bind fun v1 =>
 some (v1.1, v1.2)
def zgy (fuel : Nat) (x1 : Form) (o1 : Bool) (o2 : Hit) : Option Bool :=
 (bif o1 then
 some true
 else
 (zar fuel x1 o2.name).bind fun v2 =>
 some v2)
mutual
def zaO (fuel : Nat) (x1 : Form) (o1 : Bool) (o2 : Hit) : Option Bool :=
 match fuel with
 | 0 => none
 | fuel + 1 =>
 (zgy fuel x1 o1 o2).bind fun v1 =>
 zax fuel x1 o2 0 v1
def zax (fuel : Nat) (x1 : Form) (o2 : Hit) (g2 : Int) (g3 : Bool) : Option Bool :=
 match fuel with
 | 0 => none
 | fuel + 1 =>
 (bif (decide (g2 < (x1.kids.length : Int))) then
 (idx x1.kids g2).bind fun v7 =>
 (zaO fuel v7 g3 o2).bind fun v8 =>
 zax fuel x1 o2 (g2 + 1) v8
 else
 some g3)
end
def zeD (fuel : Nat) (x1 : (List Hit)) : Option (List Hit) :=
 chk (decide ((([] : List Hit).length + x1.length) * 192 ≤ 140737488355328)) <|
 some (([] : List Hit) ++ x1)
mutual
def zdL (fuel : Nat) (x1 : Form) (x2 : (List Hit)) : Option (Form × Bool) :=
 match fuel with
 | 0 => none
 | fuel + 1 =>
 (bif (decide (x1.kind = 1)) then
 (zeO fuel x2 x1).bind fun v2 =>
 (bif (decide (0 ≤ v2)) then
 (idx x2 v2).bind fun v4 =>
 (zbv fuel v4.one).bind fun v5 =>
 some (v5, true)
 else
 (zbv fuel x1).bind fun v6 =>
 some (v6, true))
 else
 zbI fuel x1 x2 0 x1.kind (⟨#[]⟩ : ByteArray) x1.n ([] : List Int) ([] : List Form) 0)
def zc9 (fuel : Nat) (x1 : Form) (x2 : (List Hit)) (g7 : Int) (g8 : Int) (g9 : ByteArray) (g10 : Int) (g11 : (List Int)) (g12 : (List Form)) (g13 : Int) (v17 : Form) (g28 : Int) (g29 : (List Int)) (v34 : Hit) (g42 : Bool) : Option (Form × Bool) :=
 match fuel with
 | 0 => none
 | fuel + 1 =>
 (bif g42 then
 some ((Form.mk 0 (⟨#[]⟩ : ByteArray) 0 ([] : List Int) ([] : List Form)), false)
 else
 zb1 fuel x1 x2 g7 g8 g9 g10 g11 g12 g13 v17 (g28 + 1) (g29 ++ [g28]) (v34.many.length : Int))
def zda (fuel : Nat) (x1 : Form) (x2 : (List Hit)) (g7 : Int) (g8 : Int) (g9 : ByteArray) (g10 : Int) (g11 : (List Int)) (g12 : (List Form)) (g13 : Int) (v17 : Form) (g28 : Int) (g29 : (List Int)) (g30 : Int) (v34 : Hit) (g37 : Bool) : Option (Form × Bool) :=
 match fuel with
 | 0 => none
 | fuel + 1 =>
 (bif g37 then
 zb1 fuel x1 x2 g7 g8 g9 g10 g11 g12 g13 v17 (g28 + 1) g29 g30
 else
 chk (decide ((g29.length + [g28].length) * 8 ≤ 140737488355328)) <|
 (bif (decide (0 ≤ g30)) then
 zc9 fuel x1 x2 g7 g8 g9 g10 g11 g12 g13 v17 g28 g29 v34 (decide (g30 ≠ (v34.many.length : Int)))
 else
 zc9 fuel x1 x2 g7 g8 g9 g10 g11 g12 g13 v17 g28 g29 v34 false))
def zb1 (fuel : Nat) (x1 : Form) (x2 : (List Hit)) (g7 : Int) (g8 : Int) (g9 : ByteArray) (g10 : Int) (g11 : (List Int)) (g12 : (List Form)) (g13 : Int) (v17 : Form) (g28 : Int) (g29 : (List Int)) (g30 : Int) : Option (Form × Bool) :=
 match fuel with
 | 0 => none
 | fuel + 1 =>
 (bif (decide (g28 < (x2.length : Int))) then
 (idx x2 g28).bind fun v34 =>
 (zaO fuel v17 false v34).bind fun v35 =>
 (bif (!v35) then
 zda fuel x1 x2 g7 g8 g9 g10 g11 g12 g13 v17 g28 g29 g30 v34 true
 else
 zda fuel x1 x2 g7 g8 g9 g10 g11 g12 g13 v17 g28 g29 g30 v34 (decide (v34.depth = 0)))
 else
 zey fuel x1 x2 g7 g8 g9 g10 g11 g12 g13 v17 g30 g29)
def zcC (fuel : Nat) (x1 : Form) (x2 : (List Hit)) (g7 : Int) (v17 : Form) (g45 : Int) (g46 : (List Int)) (g48 : Int) (g49 : Int) (g50 : ByteArray) (g51 : Int) (g52 : (List Int)) (g53 : (List Form)) (g54 : Int) (g58 : Int) (g59 : (List Hit)) : Option (Form × Bool) :=
 match fuel with
 | 0 => none
 | fuel + 1 =>
 (bif (decide (g58 < (g46.length : Int))) then
 (idx g46 g58).bind fun v63 =>
 (idx x2 v63).bind fun v64 =>
 (idx v64.many g48).bind fun v65 =>
 (idx g59 v63).bind fun v66 =>
 zcC fuel x1 x2 g7 v17 g45 g46 g48 g49 g50 g51 g52 g53 g54 (g58 + 1) (g59.set v63.toNat v65)
 else
 zex fuel x1 x2 g7 v17 g45 g46 g48 g49 g50 g51 g52 g53 g54 g59)
def zex (fuel : Nat) (x1 : Form) (x2 : (List Hit)) (g7 : Int) (v17 : Form) (g45 : Int) (g46 : (List Int)) (g48 : Int) (g49 : Int) (g50 : ByteArray) (g51 : Int) (g52 : (List Int)) (g53 : (List Form)) (g54 : Int) (g67 : (List Hit)) : Option (Form × Bool) :=
 match fuel with
 | 0 => none
 | fuel + 1 =>
 (zdD fuel v17 g67 g54 (Form.mk g49 g50 g51 g52 g53)).bind fun v69 =>
 (bif (!v69.1) then
 some ((Form.mk 0 (⟨#[]⟩ : ByteArray) 0 ([] : List Int) ([] : List Form)), false)
 else
 zc8 fuel x1 x2 g7 v17 g45 g46 (w64 (g48 + 1)) v69.2.2.kind v69.2.2.name v69.2.2.n v69.2.2.scopes v69.2.2.kids v69.2.1)
def zc8 (fuel : Nat) (x1 : Form) (x2 : (List Hit)) (g7 : Int) (v17 : Form) (g45 : Int) (g46 : (List Int)) (g48 : Int) (g49 : Int) (g50 : ByteArray) (g51 : Int) (g52 : (List Int)) (g53 : (List Form)) (g54 : Int) : Option (Form × Bool) :=
 match fuel with
 | 0 => none
 | fuel + 1 =>
 (bif (decide (g48 < g45)) then
 (zeD fuel x2).bind fun v57 =>
 zcC fuel x1 x2 g7 v17 g45 g46 g48 g49 g50 g51 g52 g53 g54 0 v57
 else
 zbI fuel x1 x2 (w64 (g7 + 1)) g49 g50 g51 g52 g53 g54)
def zey (fuel : Nat) (x1 : Form) (x2 : (List Hit)) (g7 : Int) (g8 : Int) (g9 : ByteArray) (g10 : Int) (g11 : (List Int)) (g12 : (List Form)) (g13 : Int) (v17 : Form) (g45 : Int) (g46 : (List Int)) : Option (Form × Bool) :=
 match fuel with
 | 0 => none
 | fuel + 1 =>
 zc8 fuel x1 x2 g7 v17 g45 g46 0 g8 g9 g10 g11 g12 g13
def zbJ (fuel : Nat) (x1 : Form) (x2 : (List Hit)) (g7 : Int) (g8 : Int) (g9 : ByteArray) (g10 : Int) (g11 : (List Int)) (g12 : (List Form)) (g13 : Int) (v17 : Form) (g23 : Bool) : Option (Form × Bool) :=
 match fuel with
 | 0 => none
 | fuel + 1 =>
 (bif g23 then
 (zdD fuel v17 x2 g13 (Form.mk g8 g9 g10 g11 g12)).bind fun v26 =>
 (bif (!v26.1) then
 some ((Form.mk 0 (⟨#[]⟩ : ByteArray) 0 ([] : List Int) ([] : List Form)), false)
 else
 zbI fuel x1 x2 (g7 + 1) v26.2.2.kind v26.2.2.name v26.2.2.n v26.2.2.scopes v26.2.2.kids v26.2.1)
 else
 zb1 fuel x1 x2 g7 g8 g9 g10 g11 g12 g13 v17 0 ([] : List Int) (-1))
def zbI (fuel : Nat) (x1 : Form) (x2 : (List Hit)) (g7 : Int) (g8 : Int) (g9 : ByteArray) (g10 : Int) (g11 : (List Int)) (g12 : (List Form)) (g13 : Int) : Option (Form × Bool) :=
 match fuel with
 | 0 => none
 | fuel + 1 =>
 (bif (decide (g7 < (x1.kids.length : Int))) then
 (idx x1.kids g7).bind fun v17 =>
 (zcp fuel v17 (⟨#[46, 46, 46]⟩ : ByteArray)).bind fun v18 =>
 (bif v18 then
 zbI fuel x1 x2 (g7 + 1) g8 g9 g10 g11 g12 g13
 else
 (bif (decide ((g7 + 1) = (x1.kids.length : Int))) then
 zbJ fuel x1 x2 g7 g8 g9 g10 g11 g12 g13 v17 true
 else
 (idx x1.kids (g7 + 1)).bind fun v21 =>
 (zcp fuel v21 (⟨#[46, 46, 46]⟩ : ByteArray)).bind fun v22 =>
 zbJ fuel x1 x2 g7 g8 g9 g10 g11 g12 g13 v17 (!v22)))
 else
 some ((Form.mk g8 g9 g10 g11 g12), true))
def zdD (fuel : Nat) (x1 : Form) (x2 : (List Hit)) (o1 : Int) (o2 : Form) : Option (Bool × Int × Form) :=
 match fuel with
 | 0 => none
 | fuel + 1 =>
 (zdL fuel x1 x2).bind fun v1 =>
 (bif (!v1.2) then
 some (false, o1, o2)
 else
 (zcL fuel v1.1).bind fun v3 =>
 chk (decide ((o2.kids.length + [(Form.mk 0 (⟨#[]⟩ : ByteArray) 0 ([] : List Int) ([] : List Form))].length) * 80 ≤ 140737488355328)) <|
 (idx (o2.kids ++ [(Form.mk 0 (⟨#[]⟩ : ByteArray) 0 ([] : List Int) ([] : List Form))]) (o2.kids.length : Int)).bind fun v5 =>
 some ((decide ((w64 (o1 + v3)) ≤ 400)), (w64 (o1 + v3)), (Form.mk o2.kind o2.name o2.n o2.scopes ((o2.kids ++ [(Form.mk 0 (⟨#[]⟩ : ByteArray) 0 ([] : List Int) ([] : List Form))]).set (o2.kids.length : Int).toNat v1.1))))
end
def zgx (fuel : Nat) (x1 : Form) : Option (Form × Bool) :=
 (zbR fuel x1).bind fun v1 =>
 (bif (!v1) then
 some ((Form.mk 0 (⟨#[]⟩ : ByteArray) 0 ([] : List Int) ([] : List Form)), false)
 else
 (zbv fuel x1).bind fun v3 =>
 some (v3, true))
def zdk (fuel : Nat) (x1 : Form) (x2 : (List Hit)) : Option (Form × Bool) :=
 (zca fuel x1 x2).bind fun v1 =>
 (bif (!v1) then
 some ((Form.mk 0 (⟨#[]⟩ : ByteArray) 0 ([] : List Int) ([] : List Form)), false)
 else
 (zdL fuel x1 x2).bind fun v3 =>
 (bif (!v3.2) then
 some ((Form.mk 0 (⟨#[]⟩ : ByteArray) 0 ([] : List Int) ([] : List Form)), false)
 else
 (zgx fuel v3.1).bind fun v5 =>
 some (v5.1, v5.2)))
mutual
def zdv (fuel : Nat) (x1 : Form) (x2 : Form) : Option Bool :=
 match fuel with
 | 0 => none
 | fuel + 1 =>
 (bif (decide (x1.kind = 1)) then
 (zap fuel x1 x2).bind fun v2 =>
 (bif v2 then
 some true
 else
 zcO fuel x1 x2 )
 else
 zcO fuel x1 x2 )
def zcb (fuel : Nat) (x1 : Form) (x2 : Form) (g5 : Int) : Option Bool :=
 match fuel with
 | 0 => none
 | fuel + 1 =>
 (bif (decide (g5 < (x1.kids.length : Int))) then
 (idx x1.kids g5).bind fun v9 =>
 (zdv fuel v9 x2).bind fun v10 =>
 (bif v10 then
 some true
 else
 zcb fuel x1 x2 (g5 + 1))
 else
 some false)
def zcO (fuel : Nat) (x1 : Form) (x2 : Form) : Option Bool :=
 match fuel with
 | 0 => none
 | fuel + 1 =>
 zcb fuel x1 x2 0
end
mutual
def zcu (fuel : Nat) (x1 : Form) (x2 : (List Hit)) (g1 : Int) : Option Int :=
 match fuel with
 | 0 => none
 | fuel + 1 =>
 (idx x2 g1).bind fun v17 =>
 zbD fuel x1 x2 (g1 + 1) (v17.many.length : Int)
def zbX (fuel : Nat) (x1 : Form) (x2 : (List Hit)) (g1 : Int) (g2 : Int) (g10 : Bool) : Option Int :=
 match fuel with
 | 0 => none
 | fuel + 1 =>
 (bif g10 then
 zbD fuel x1 x2 (g1 + 1) g2
 else
 (bif (decide (0 ≤ g2)) then
 (idx x2 g1).bind fun v14 =>
 (bif (decide (g2 ≠ (v14.many.length : Int))) then
 some (-1)
 else
 zcu fuel x1 x2 g1 )
 else
 zcu fuel x1 x2 g1 ))
def zbD (fuel : Nat) (x1 : Form) (x2 : (List Hit)) (g1 : Int) (g2 : Int) : Option Int :=
 match fuel with
 | 0 => none
 | fuel + 1 =>
 (bif (decide (g1 < (x2.length : Int))) then
 (idx x2 g1).bind fun v6 =>
 (bif (decide (v6.depth = 0)) then
 zbX fuel x1 x2 g1 g2 true
 else
 (idx x2 g1).bind fun v8 =>
 (zdv fuel x1 v8.name).bind fun v9 =>
 zbX fuel x1 x2 g1 g2 (!v9))
 else
 some g2)
end
def ze8 (fuel : Nat) (x1 : Form) (x2 : (List Hit)) : Option Int :=
 zbD fuel x1 x2 0 (-1)
mutual
def zcF (fuel : Nat) (x1 : Form) (x2 : (List Hit)) (x3 : Int) (g1 : (List Hit)) (g2 : Int) (v6 : Hit) (g9 : Bool) : Option (List Hit) :=
 match fuel with
 | 0 => none
 | fuel + 1 =>
 (bif g9 then
 (idx v6.many x3).bind fun v12 =>
 chk (decide ((g1.length + [v12].length) * 192 ≤ 140737488355328)) <|
 zb2 fuel x1 x2 x3 (g1 ++ [v12]) (g2 + 1)
 else
 chk (decide ((g1.length + [v6].length) * 192 ≤ 140737488355328)) <|
 zb2 fuel x1 x2 x3 (g1 ++ [v6]) (g2 + 1))
def zb2 (fuel : Nat) (x1 : Form) (x2 : (List Hit)) (x3 : Int) (g1 : (List Hit)) (g2 : Int) : Option (List Hit) :=
 match fuel with
 | 0 => none
 | fuel + 1 =>
 (bif (decide (g2 < (x2.length : Int))) then
 (idx x2 g2).bind fun v6 =>
 (bif (decide (0 < v6.depth)) then
 (zdv fuel x1 v6.name).bind fun v8 =>
 zcF fuel x1 x2 x3 g1 g2 v6 v8
 else
 zcF fuel x1 x2 x3 g1 g2 v6 false)
 else
 some g1)
end
def zfB (fuel : Nat) (x1 : Form) (x2 : (List Hit)) (x3 : Int) : Option (List Hit) :=
 zb2 fuel x1 x2 x3 ([] : List Hit) 0
mutual
def zc0 (fuel : Nat) (x1 : Form) (x2 : (List Hit)) : Option (Form × Bool) :=
 match fuel with
 | 0 => none
 | fuel + 1 =>
 (bif (decide (x1.kind = 1)) then
 (zd0 fuel x2 x1).bind fun v2 =>
 zch fuel x1 x2 v2
 else
 zch fuel x1 x2 (-1))
def zce (fuel : Nat) (x1 : Form) (x2 : (List Hit)) (g10 : Int) (g22 : Bool) (g27 : Int) (g30 : Int) (g31 : Int) (g32 : (List Form)) (v41 : Form × Bool) (v42 : Int) (g44 : Bool) : Option (Form × Bool) :=
 match fuel with
 | 0 => none
 | fuel + 1 =>
 (bif g44 then
 some (x1, false)
 else
 chk (decide ((g32.length + [v41.1].length) * 80 ≤ 140737488355328)) <|
 zcd fuel x1 x2 g10 g22 g27 (w64 (g30 + v42)) (w64 (g31 + 1)) (g32 ++ [v41.1]))
def zcP (fuel : Nat) (x1 : Form) (x2 : (List Hit)) (g10 : Int) (g22 : Bool) (g27 : Int) (g30 : Int) (g31 : Int) (g32 : (List Form)) (g38 : (List Hit)) : Option (Form × Bool) :=
 match fuel with
 | 0 => none
 | fuel + 1 =>
 (idx x1.kids g10).bind fun v40 =>
 (zc0 fuel v40 g38).bind fun v41 =>
 (zc7 fuel v41.1).bind fun v42 =>
 (bif (!v41.2) then
 zce fuel x1 x2 g10 g22 g27 g30 g31 g32 v41 v42 true
 else
 zce fuel x1 x2 g10 g22 g27 g30 g31 g32 v41 v42 (decide (400 < (w64 (g30 + v42)))))
def zcd (fuel : Nat) (x1 : Form) (x2 : (List Hit)) (g10 : Int) (g22 : Bool) (g27 : Int) (g30 : Int) (g31 : Int) (g32 : (List Form)) : Option (Form × Bool) :=
 match fuel with
 | 0 => none
 | fuel + 1 =>
 (bif (decide (g31 < g27)) then
 (bif g22 then
 (idx x1.kids g10).bind fun v36 =>
 (zfB fuel v36 x2 g31).bind fun v37 =>
 zcP fuel x1 x2 g10 g22 g27 g30 g31 g32 v37
 else
 zcP fuel x1 x2 g10 g22 g27 g30 g31 g32 x2)
 else
 zby fuel x1 x2 (w64 (g10 + 1)) g30 g32)
def zcf (fuel : Nat) (x1 : Form) (x2 : (List Hit)) (g10 : Int) (g11 : Int) (g12 : (List Form)) (g22 : Bool) (g27 : Int) : Option (Form × Bool) :=
 match fuel with
 | 0 => none
 | fuel + 1 =>
 (bif (decide (g27 < 0)) then
 some (x1, false)
 else
 zcd fuel x1 x2 g10 g22 g27 g11 0 g12)
def zcg (fuel : Nat) (x1 : Form) (x2 : (List Hit)) (g10 : Int) (g11 : Int) (g12 : (List Form)) (g22 : Bool) : Option (Form × Bool) :=
 match fuel with
 | 0 => none
 | fuel + 1 =>
 (bif g22 then
 (idx x1.kids g10).bind fun v25 =>
 (ze8 fuel v25 x2).bind fun v26 =>
 zcf fuel x1 x2 g10 g11 g12 g22 v26
 else
 zcf fuel x1 x2 g10 g11 g12 g22 1)
def zby (fuel : Nat) (x1 : Form) (x2 : (List Hit)) (g10 : Int) (g11 : Int) (g12 : (List Form)) : Option (Form × Bool) :=
 match fuel with
 | 0 => none
 | fuel + 1 =>
 (bif (decide (g10 < (x1.kids.length : Int))) then
 (idx x1.kids g10).bind fun v16 =>
 (zaP fuel v16).bind fun v17 =>
 (bif v17 then
 zby fuel x1 x2 (g10 + 1) g11 g12
 else
 (bif (decide ((g10 + 1) < (x1.kids.length : Int))) then
 (idx x1.kids (g10 + 1)).bind fun v20 =>
 (zaP fuel v20).bind fun v21 =>
 zcg fuel x1 x2 g10 g11 g12 v21
 else
 zcg fuel x1 x2 g10 g11 g12 false))
 else
 some ((Form.mk x1.kind x1.name x1.n (([] : List Int) ++ x1.scopes) g12), true))
def zch (fuel : Nat) (x1 : Form) (x2 : (List Hit)) (g3 : Int) : Option (Form × Bool) :=
 match fuel with
 | 0 => none
 | fuel + 1 =>
 (bif (decide (0 ≤ g3)) then
 (idx x2 g3).bind fun v6 =>
 (zaY fuel v6.one).bind fun v7 =>
 (idx x2 g3).bind fun v8 =>
 some (v7, (decide (v8.depth = 0)))
 else
 chk (decide ((([] : List Int).length + x1.scopes.length) * 8 ≤ 140737488355328)) <|
 zby fuel x1 x2 0 0 ([] : List Form))
end
def zdh (fuel : Nat) (x1 : Form) (x2 : (List Hit)) : Option (Form × Bool) :=
 (zbF fuel x1).bind fun v1 =>
 (zcX fuel v1 x2).bind fun v2 =>
 (bif (!v2) then
 some ((Form.mk 0 (⟨#[]⟩ : ByteArray) 0 ([] : List Int) ([] : List Form)), false)
 else
 (zc0 fuel v1 x2).bind fun v4 =>
 (bif (!v4.2) then
 some ((Form.mk 0 (⟨#[]⟩ : ByteArray) 0 ([] : List Int) ([] : List Form)), false)
 else
 (zay fuel v4.1).bind fun v6 =>
 (bif (!v6) then
 some ((Form.mk 0 (⟨#[]⟩ : ByteArray) 0 ([] : List Int) ([] : List Form)), false)
 else
 some (v4.1, true))))
mutual
def zbm (fuel : Nat) (g14 : Bool) : Option Bool :=
 match fuel with
 | 0 => none
 | fuel + 1 =>
 some g14
def zat (fuel : Nat) (v3 : Form × (List Hit)) (v4 : Form × Bool) (g16 : Bool) (g17 : Int) : Option Bool :=
 match fuel with
 | 0 => none
 | fuel + 1 =>
 (bif (decide (g17 < (v3.2.length : Int))) then
 (bif g16 then
 zat fuel v3 v4 true (g17 + 1)
 else
 (idx v3.2 g17).bind fun v22 =>
 (zdA fuel v3.1 v22.name).bind fun v23 =>
 zat fuel v3 v4 v23 (g17 + 1))
 else
 zbl fuel v3 v4 g16)
def zbl (fuel : Nat) (v3 : Form × (List Hit)) (v4 : Form × Bool) (g24 : Bool) : Option Bool :=
 match fuel with
 | 0 => none
 | fuel + 1 =>
 (zbR fuel v4.1).bind fun v26 =>
 (bif v26 then
 (zca fuel v3.1 v3.2).bind fun v28 =>
 (bif v28 then
 (bif g24 then
 some true
 else
 (zar fuel v4.1 v3.1).bind fun v31 =>
 some v31)
 else
 some false)
 else
 some false)
def zaD (fuel : Nat) (v3 : Form × (List Hit)) (v4 : Form × Bool) (v5 : Form × Bool) (g9 : Bool) : Option Bool :=
 match fuel with
 | 0 => none
 | fuel + 1 =>
 (bif g9 then
 (zar fuel v4.1 v5.1).bind fun v12 =>
 (bif v12 then
 zbm fuel  (decide (v4.2 = v5.2))
 else
 zbm fuel  false)
 else
 zat fuel v3 v4 false 0)
end
def zdB (fuel : Nat) (x1 : (List Int)) : Option Bool :=
 (bif (decide (1048576 < (x1.length : Int))) then
 some true
 else
 (zc1 fuel x1).bind fun v3 =>
 (zdk fuel v3.1 v3.2).bind fun v4 =>
 (zdh fuel v3.1 v3.2).bind fun v5 =>
 (zar fuel v4.1 v5.1).bind fun v6 =>
 (bif (!v6) then
 zaD fuel v3 v4 v5 true
 else
 (bif (decide (v4.2 ≠ v5.2)) then
 zaD fuel v3 v4 v5 true
 else
 zaD fuel v3 v4 v5 (!v4.2))))
end Go.Abs
