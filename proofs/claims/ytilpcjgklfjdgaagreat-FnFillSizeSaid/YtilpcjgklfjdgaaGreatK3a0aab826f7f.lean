/- A part of the proof: what the functions that the law calls answer, as pure values. -/
import Derived.Test.YtilpcjgklfjdgaaGreatK5c64254e7aa4
import Derived.Test.YtilpcjgklfjdgaaGreatK4a594d8f96c4
import Derived.Test.YtilpcjgklfjdgaaGreatK34df362585ca
set_option linter.unusedSimpArgs false
set_option linter.unusedVariables false
set_option maxHeartbeats 4000000
namespace Go.Abs
mutual
def zbt (fuel : Nat) (x1 : (List Bind)) (x2 : (List Rule)) (x3 : (List Form)) (x4 : Form) (g9 : Int) : Option (Int × Bool) :=
 match fuel with
 | 0 => none
 | fuel + 1 =>
 (bif (decide (g9 < (x2.length : Int))) then
 (idx x2 g9).bind fun v13 =>
 (zb5 fuel x1 v13.pattern x3 x4).bind fun v14 =>
 (bif v14.2 then
 some (g9, true)
 else
 zbt fuel x1 x2 x3 x4 (g9 + 1))
 else
 some (0, false))
def za2 (fuel : Nat) (x1 : (List Bind)) (x2 : (List Rule)) (x3 : (List Form)) (x4 : Form) (g6 : Bool) : Option (Int × Bool) :=
 match fuel with
 | 0 => none
 | fuel + 1 =>
 (bif g6 then
 some (0, false)
 else
 zbt fuel x1 x2 x3 x4 0)
end
def zeu (fuel : Nat) (x1 : (List Bind)) (x2 : (List Rule)) (x3 : (List Form)) (x4 : Form) : Option (Int × Bool) :=
 (zdk fuel x1).bind fun v1 =>
 (bif (!v1) then
 za2 fuel x1 x2 x3 x4 true
 else
 (zeB fuel x2 x3).bind fun v3 =>
 (bif (!v3) then
 za2 fuel x1 x2 x3 x4 true
 else
 (zaB fuel x4).bind fun v5 =>
 za2 fuel x1 x2 x3 x4 (!v5)))
mutual
def zdC (fuel : Nat) (o1 : za8) (x2 : Int) : Option (Form × za8) :=
 match fuel with
 | 0 => none
 | fuel + 1 =>
 (bif (decide (x2 = 0)) then
 (zL fuel o1 4).bind fun v2 =>
 (bif (decide (v2.1 = 0)) then
 (zaq fuel v2.2 [0, 1, 2, 7, 42, 999]).bind fun v4 =>
 some ((Form.mk 2 (⟨#[]⟩ : ByteArray) v4.1 ([] : List Int) ([] : List Form)), v4.2)
 else
 (zbo fuel v2.2 [(⟨#[97]⟩ : ByteArray), (⟨#[98]⟩ : ByteArray), (⟨#[120]⟩ : ByteArray), (⟨#[121]⟩ : ByteArray), (⟨#[102]⟩ : ByteArray), (⟨#[105, 102]⟩ : ByteArray), (⟨#[108, 101, 116]⟩ : ByteArray), (⟨#[43]⟩ : ByteArray)]).bind fun v5 =>
 (zd7 fuel v5.1).bind fun v6 =>
 some (v6, v5.2))
 else
 (zL fuel o1 3).bind fun v7 =>
 (bif (decide (v7.1 = 0)) then
 (zL fuel v7.2 4).bind fun v9 =>
 (bif (decide (v9.1 = 0)) then
 (zaq fuel v9.2 [0, 1, 2, 7, 42, 999]).bind fun v11 =>
 some ((Form.mk 2 (⟨#[]⟩ : ByteArray) v11.1 ([] : List Int) ([] : List Form)), v11.2)
 else
 (zbo fuel v9.2 [(⟨#[97]⟩ : ByteArray), (⟨#[98]⟩ : ByteArray), (⟨#[120]⟩ : ByteArray), (⟨#[121]⟩ : ByteArray), (⟨#[102]⟩ : ByteArray), (⟨#[105, 102]⟩ : ByteArray), (⟨#[108, 101, 116]⟩ : ByteArray), (⟨#[43]⟩ : ByteArray)]).bind fun v12 =>
 (zd7 fuel v12.1).bind fun v13 =>
 some (v13, v12.2))
 else
 (zL fuel v7.2 4).bind fun v14 =>
 zcs fuel x2 v14.1 v14.2.b v14.2.p ([] : List Form)))
def zcs (fuel : Nat) (x2 : Int) (g15 : Int) (g16 : (List Int)) (g17 : Int) (g18 : (List Form)) : Option (Form × za8) :=
 match fuel with
 | 0 => none
 | fuel + 1 =>
 (bif (decide (0 < g15)) then
 (zdC fuel (za8.mk g16 g17) (w64 (x2 - 1))).bind fun v21 =>
 chk (decide ((g18.length + [v21.1].length) * 80 ≤ 140737488355328)) <|
 zcs fuel x2 (w64 (g15 - 1)) v21.2.b v21.2.p (g18 ++ [v21.1])
 else
 some ((Form.mk 3 (⟨#[]⟩ : ByteArray) 0 ([] : List Int) g18), (za8.mk g16 g17)))
end
def zfV (fuel : Nat) (x1 : (List Int)) : Option (Form × (List Hit)) :=
 (zfW fuel x1).bind fun v1 =>
 (zeD fuel x1).bind fun v2 =>
 (zeu fuel ([] : List Bind) v1.2.1 v1.1 v1.2.2).bind fun v3 =>
 (bif (!v3.2) then
 (zdC fuel v2 2).bind fun v5 =>
 some (v5.1, ([] : List Hit))
 else
 (idx v1.2.1 v3.1).bind fun v6 =>
 (zdo fuel ([] : List Bind) v6.pattern v1.1 v1.2.2).bind fun v7 =>
 (idx v1.2.1 v3.1).bind fun v8 =>
 (za1 fuel v8.template).bind fun v9 =>
 (zL fuel v2 12).bind fun v10 =>
 (bif (decide (v10.1 = 0)) then
 (zak fuel v10.2 v9).bind fun v12 =>
 (zak fuel v12.2 v12.1).bind fun v13 =>
 some (v13.1, v7.1)
 else
 (bif (decide (v10.1 = 1)) then
 (zbo fuel v10.2 [(⟨#[40, 97, 32, 46, 46, 46, 41]⟩ : ByteArray), (⟨#[40, 120, 32, 46, 46, 46, 32, 46, 46, 46, 41]⟩ : ByteArray), (⟨#[46, 46, 46]⟩ : ByteArray), (⟨#[40, 49, 32, 46, 46, 46, 41]⟩ : ByteArray), (⟨#[40, 113, 32, 40, 97, 32, 98, 41, 32, 46, 46, 46, 41]⟩ : ByteArray)]).bind fun v15 =>
 (zde fuel v15.1).bind fun v16 =>
 some (v16, v7.1)
 else
 some (v9, v7.1))))
def zaV (fuel : Nat) (x1 : (List ByteArray)) (x2 : ByteArray) (g1 : Int) : Option Int :=
 match fuel with
 | 0 => none
 | fuel + 1 =>
 (bif (decide (g1 < (x1.length : Int))) then
 (idx x1 g1).bind fun v5 =>
 (bif (decide (x2 = v5)) then
 some g1
 else
 zaV fuel x1 x2 (g1 + 1))
 else
 some (-1))
def zdE (fuel : Nat) (x1 : (List ByteArray)) (x2 : ByteArray) : Option Int :=
 zaV fuel x1 x2 0
def zb0 (fuel : Nat) (x1 : (List ByteArray)) (x2 : ByteArray) : Option Bool :=
 (zdE fuel x1 x2).bind fun v1 =>
 some (decide (0 ≤ v1))
def zex (fuel : Nat) (x1 : Form) (o1 : (List ByteArray)) : Option (List ByteArray) :=
 (bif (decide (x1.kind = 1)) then
 (zb0 fuel o1 x1.name).bind fun v2 =>
 (bif (!v2) then
 chk (decide ((o1.length + [x1.name].length) * 16 ≤ 140737488355328)) <|
 some (o1 ++ [x1.name])
 else
 some o1)
 else
 some o1)
mutual
def zaM (fuel : Nat) (x1 : Form) (o1 : (List ByteArray)) : Option (List ByteArray) :=
 match fuel with
 | 0 => none
 | fuel + 1 =>
 (zex fuel x1 o1).bind fun v1 =>
 zal fuel x1 0 v1
def zal (fuel : Nat) (x1 : Form) (g2 : Int) (g3 : (List ByteArray)) : Option (List ByteArray) :=
 match fuel with
 | 0 => none
 | fuel + 1 =>
 (bif (decide (g2 < (x1.kids.length : Int))) then
 (idx x1.kids g2).bind fun v7 =>
 (zaM fuel v7 g3).bind fun v8 =>
 zal fuel x1 (g2 + 1) v8
 else
 some g3)
end
def zfn (fuel : Nat) (x1 : Form) : Option (List ByteArray) :=
 (zaM fuel x1 ([] : List ByteArray)).bind fun v1 =>
 some v1
def zbU (fuel : Nat) (x1 : (List ByteArray)) (x2 : ByteArray) (g1 : Int) : Option Bool :=
 match fuel with
 | 0 => none
 | fuel + 1 =>
 (bif (decide (g1 < (x1.length : Int))) then
 (idx x1 g1).bind fun v5 =>
 (bif (decide (v5 = x2)) then
 some true
 else
 zbU fuel x1 x2 (g1 + 1))
 else
 some false)
def zev (fuel : Nat) (x1 : (List ByteArray)) (x2 : ByteArray) : Option Bool :=
 zbU fuel x1 x2 0
mutual
def zbx (fuel : Nat) (x1 : Form) : Option Int :=
 match fuel with
 | 0 => none
 | fuel + 1 =>
 zbH fuel x1 1 0
def zbH (fuel : Nat) (x1 : Form) (g1 : Int) (g2 : Int) : Option Int :=
 match fuel with
 | 0 => none
 | fuel + 1 =>
 (bif (decide (g2 < (x1.kids.length : Int))) then
 (idx x1.kids g2).bind fun v6 =>
 (zbx fuel v6).bind fun v7 =>
 zbH fuel x1 (w64 (g1 + v7)) (g2 + 1)
 else
 some g1)
end
def zca (fuel : Nat) (x1 : (List Int)) : Option (Form × (List Hit)) :=
 (zfV fuel x1).bind fun v1 =>
 some (v1.1, v1.2)
def zgK (fuel : Nat) (x1 : Form) (o1 : Bool) (o2 : Hit) : Option Bool :=
 (bif o1 then
 some true
 else
 (zay fuel x1 o2.name).bind fun v2 =>
 some v2)
mutual
def zaP (fuel : Nat) (x1 : Form) (o1 : Bool) (o2 : Hit) : Option Bool :=
 match fuel with
 | 0 => none
 | fuel + 1 =>
 (zgK fuel x1 o1 o2).bind fun v1 =>
 zaz fuel x1 o2 0 v1
def zaz (fuel : Nat) (x1 : Form) (o2 : Hit) (g2 : Int) (g3 : Bool) : Option Bool :=
 match fuel with
 | 0 => none
 | fuel + 1 =>
 (bif (decide (g2 < (x1.kids.length : Int))) then
 (idx x1.kids g2).bind fun v7 =>
 (zaP fuel v7 g3 o2).bind fun v8 =>
 zaz fuel x1 o2 (g2 + 1) v8
 else
 some g3)
end
def zeK (fuel : Nat) (x1 : (List Hit)) : Option (List Hit) :=
 chk (decide ((([] : List Hit).length + x1.length) * 192 ≤ 140737488355328)) <|
 some (([] : List Hit) ++ x1)
mutual
def zdR (fuel : Nat) (x1 : Form) (x2 : (List Hit)) : Option (Form × Bool) :=
 match fuel with
 | 0 => none
 | fuel + 1 =>
 (bif (decide (x1.kind = 1)) then
 (zeW fuel x2 x1).bind fun v2 =>
 (bif (decide (0 ≤ v2)) then
 (idx x2 v2).bind fun v4 =>
 (zbv fuel v4.one).bind fun v5 =>
 some (v5, true)
 else
 (zbv fuel x1).bind fun v6 =>
 some (v6, true))
 else
 zbK fuel x1 x2 0 x1.kind (⟨#[]⟩ : ByteArray) x1.n ([] : List Int) ([] : List Form) 0)
def zdh (fuel : Nat) (x1 : Form) (x2 : (List Hit)) (g7 : Int) (g8 : Int) (g9 : ByteArray) (g10 : Int) (g11 : (List Int)) (g12 : (List Form)) (g13 : Int) (v17 : Form) (g28 : Int) (g29 : (List Int)) (v34 : Hit) (g42 : Bool) : Option (Form × Bool) :=
 match fuel with
 | 0 => none
 | fuel + 1 =>
 (bif g42 then
 some ((Form.mk 0 (⟨#[]⟩ : ByteArray) 0 ([] : List Int) ([] : List Form)), false)
 else
 zb6 fuel x1 x2 g7 g8 g9 g10 g11 g12 g13 v17 (g28 + 1) (g29 ++ [g28]) (v34.many.length : Int))
def zdi (fuel : Nat) (x1 : Form) (x2 : (List Hit)) (g7 : Int) (g8 : Int) (g9 : ByteArray) (g10 : Int) (g11 : (List Int)) (g12 : (List Form)) (g13 : Int) (v17 : Form) (g28 : Int) (g29 : (List Int)) (g30 : Int) (v34 : Hit) (g37 : Bool) : Option (Form × Bool) :=
 match fuel with
 | 0 => none
 | fuel + 1 =>
 (bif g37 then
 zb6 fuel x1 x2 g7 g8 g9 g10 g11 g12 g13 v17 (g28 + 1) g29 g30
 else
 chk (decide ((g29.length + [g28].length) * 8 ≤ 140737488355328)) <|
 (bif (decide (0 ≤ g30)) then
 zdh fuel x1 x2 g7 g8 g9 g10 g11 g12 g13 v17 g28 g29 v34 (decide (g30 ≠ (v34.many.length : Int)))
 else
 zdh fuel x1 x2 g7 g8 g9 g10 g11 g12 g13 v17 g28 g29 v34 false))
def zb6 (fuel : Nat) (x1 : Form) (x2 : (List Hit)) (g7 : Int) (g8 : Int) (g9 : ByteArray) (g10 : Int) (g11 : (List Int)) (g12 : (List Form)) (g13 : Int) (v17 : Form) (g28 : Int) (g29 : (List Int)) (g30 : Int) : Option (Form × Bool) :=
 match fuel with
 | 0 => none
 | fuel + 1 =>
 (bif (decide (g28 < (x2.length : Int))) then
 (idx x2 g28).bind fun v34 =>
 (zaP fuel v17 false v34).bind fun v35 =>
 (bif (!v35) then
 zdi fuel x1 x2 g7 g8 g9 g10 g11 g12 g13 v17 g28 g29 g30 v34 true
 else
 zdi fuel x1 x2 g7 g8 g9 g10 g11 g12 g13 v17 g28 g29 g30 v34 (decide (v34.depth = 0)))
 else
 zeF fuel x1 x2 g7 g8 g9 g10 g11 g12 g13 v17 g30 g29)
def zcK (fuel : Nat) (x1 : Form) (x2 : (List Hit)) (g7 : Int) (v17 : Form) (g45 : Int) (g46 : (List Int)) (g48 : Int) (g49 : Int) (g50 : ByteArray) (g51 : Int) (g52 : (List Int)) (g53 : (List Form)) (g54 : Int) (g58 : Int) (g59 : (List Hit)) : Option (Form × Bool) :=
 match fuel with
 | 0 => none
 | fuel + 1 =>
 (bif (decide (g58 < (g46.length : Int))) then
 (idx g46 g58).bind fun v63 =>
 (idx x2 v63).bind fun v64 =>
 (idx v64.many g48).bind fun v65 =>
 (idx g59 v63).bind fun v66 =>
 zcK fuel x1 x2 g7 v17 g45 g46 g48 g49 g50 g51 g52 g53 g54 (g58 + 1) (g59.set v63.toNat v65)
 else
 zeE fuel x1 x2 g7 v17 g45 g46 g48 g49 g50 g51 g52 g53 g54 g59)
def zeE (fuel : Nat) (x1 : Form) (x2 : (List Hit)) (g7 : Int) (v17 : Form) (g45 : Int) (g46 : (List Int)) (g48 : Int) (g49 : Int) (g50 : ByteArray) (g51 : Int) (g52 : (List Int)) (g53 : (List Form)) (g54 : Int) (g67 : (List Hit)) : Option (Form × Bool) :=
 match fuel with
 | 0 => none
 | fuel + 1 =>
 (zdI fuel v17 g67 g54 (Form.mk g49 g50 g51 g52 g53)).bind fun v69 =>
 (bif (!v69.1) then
 some ((Form.mk 0 (⟨#[]⟩ : ByteArray) 0 ([] : List Int) ([] : List Form)), false)
 else
 zdg fuel x1 x2 g7 v17 g45 g46 (w64 (g48 + 1)) v69.2.2.kind v69.2.2.name v69.2.2.n v69.2.2.scopes v69.2.2.kids v69.2.1)
def zdg (fuel : Nat) (x1 : Form) (x2 : (List Hit)) (g7 : Int) (v17 : Form) (g45 : Int) (g46 : (List Int)) (g48 : Int) (g49 : Int) (g50 : ByteArray) (g51 : Int) (g52 : (List Int)) (g53 : (List Form)) (g54 : Int) : Option (Form × Bool) :=
 match fuel with
 | 0 => none
 | fuel + 1 =>
 (bif (decide (g48 < g45)) then
 (zeK fuel x2).bind fun v57 =>
 zcK fuel x1 x2 g7 v17 g45 g46 g48 g49 g50 g51 g52 g53 g54 0 v57
 else
 zbK fuel x1 x2 (w64 (g7 + 1)) g49 g50 g51 g52 g53 g54)
def zeF (fuel : Nat) (x1 : Form) (x2 : (List Hit)) (g7 : Int) (g8 : Int) (g9 : ByteArray) (g10 : Int) (g11 : (List Int)) (g12 : (List Form)) (g13 : Int) (v17 : Form) (g45 : Int) (g46 : (List Int)) : Option (Form × Bool) :=
 match fuel with
 | 0 => none
 | fuel + 1 =>
 zdg fuel x1 x2 g7 v17 g45 g46 0 g8 g9 g10 g11 g12 g13
def zbL (fuel : Nat) (x1 : Form) (x2 : (List Hit)) (g7 : Int) (g8 : Int) (g9 : ByteArray) (g10 : Int) (g11 : (List Int)) (g12 : (List Form)) (g13 : Int) (v17 : Form) (g23 : Bool) : Option (Form × Bool) :=
 match fuel with
 | 0 => none
 | fuel + 1 =>
 (bif g23 then
 (zdI fuel v17 x2 g13 (Form.mk g8 g9 g10 g11 g12)).bind fun v26 =>
 (bif (!v26.1) then
 some ((Form.mk 0 (⟨#[]⟩ : ByteArray) 0 ([] : List Int) ([] : List Form)), false)
 else
 zbK fuel x1 x2 (g7 + 1) v26.2.2.kind v26.2.2.name v26.2.2.n v26.2.2.scopes v26.2.2.kids v26.2.1)
 else
 zb6 fuel x1 x2 g7 g8 g9 g10 g11 g12 g13 v17 0 ([] : List Int) (-1))
def zbK (fuel : Nat) (x1 : Form) (x2 : (List Hit)) (g7 : Int) (g8 : Int) (g9 : ByteArray) (g10 : Int) (g11 : (List Int)) (g12 : (List Form)) (g13 : Int) : Option (Form × Bool) :=
 match fuel with
 | 0 => none
 | fuel + 1 =>
 (bif (decide (g7 < (x1.kids.length : Int))) then
 (idx x1.kids g7).bind fun v17 =>
 (zcu fuel v17 (⟨#[46, 46, 46]⟩ : ByteArray)).bind fun v18 =>
 (bif v18 then
 zbK fuel x1 x2 (g7 + 1) g8 g9 g10 g11 g12 g13
 else
 (bif (decide ((g7 + 1) = (x1.kids.length : Int))) then
 zbL fuel x1 x2 g7 g8 g9 g10 g11 g12 g13 v17 true
 else
 (idx x1.kids (g7 + 1)).bind fun v21 =>
 (zcu fuel v21 (⟨#[46, 46, 46]⟩ : ByteArray)).bind fun v22 =>
 zbL fuel x1 x2 g7 g8 g9 g10 g11 g12 g13 v17 (!v22)))
 else
 some ((Form.mk g8 g9 g10 g11 g12), true))
def zdI (fuel : Nat) (x1 : Form) (x2 : (List Hit)) (o1 : Int) (o2 : Form) : Option (Bool × Int × Form) :=
 match fuel with
 | 0 => none
 | fuel + 1 =>
 (zdR fuel x1 x2).bind fun v1 =>
 (bif (!v1.2) then
 some (false, o1, o2)
 else
 (zbx fuel v1.1).bind fun v3 =>
 chk (decide ((o2.kids.length + [(Form.mk 0 (⟨#[]⟩ : ByteArray) 0 ([] : List Int) ([] : List Form))].length) * 80 ≤ 140737488355328)) <|
 (idx (o2.kids ++ [(Form.mk 0 (⟨#[]⟩ : ByteArray) 0 ([] : List Int) ([] : List Form))]) (o2.kids.length : Int)).bind fun v5 =>
 some ((decide ((w64 (o1 + v3)) ≤ 400)), (w64 (o1 + v3)), (Form.mk o2.kind o2.name o2.n o2.scopes ((o2.kids ++ [(Form.mk 0 (⟨#[]⟩ : ByteArray) 0 ([] : List Int) ([] : List Form))]).set (o2.kids.length : Int).toNat v1.1))))
end
def zgJ (fuel : Nat) (x1 : Form) : Option (Form × Bool) :=
 (zcw fuel x1).bind fun v1 =>
 (bif (!v1) then
 some ((Form.mk 0 (⟨#[]⟩ : ByteArray) 0 ([] : List Int) ([] : List Form)), false)
 else
 (zbv fuel x1).bind fun v3 =>
 some (v3, true))
def zdr (fuel : Nat) (x1 : Form) (x2 : (List Hit)) : Option (Form × Bool) :=
 (zc7 fuel x1 x2).bind fun v1 =>
 (bif (!v1) then
 some ((Form.mk 0 (⟨#[]⟩ : ByteArray) 0 ([] : List Int) ([] : List Form)), false)
 else
 (zdR fuel x1 x2).bind fun v3 =>
 (bif (!v3.2) then
 some ((Form.mk 0 (⟨#[]⟩ : ByteArray) 0 ([] : List Int) ([] : List Form)), false)
 else
 (zgJ fuel v3.1).bind fun v5 =>
 some (v5.1, v5.2)))
mutual
def zdB (fuel : Nat) (x1 : Form) (x2 : Form) : Option Bool :=
 match fuel with
 | 0 => none
 | fuel + 1 =>
 (bif (decide (x1.kind = 1)) then
 (zas fuel x1 x2).bind fun v2 =>
 (bif v2 then
 some true
 else
 zcV fuel x1 x2 )
 else
 zcV fuel x1 x2 )
def zch (fuel : Nat) (x1 : Form) (x2 : Form) (g5 : Int) : Option Bool :=
 match fuel with
 | 0 => none
 | fuel + 1 =>
 (bif (decide (g5 < (x1.kids.length : Int))) then
 (idx x1.kids g5).bind fun v9 =>
 (zdB fuel v9 x2).bind fun v10 =>
 (bif v10 then
 some true
 else
 zch fuel x1 x2 (g5 + 1))
 else
 some false)
def zcV (fuel : Nat) (x1 : Form) (x2 : Form) : Option Bool :=
 match fuel with
 | 0 => none
 | fuel + 1 =>
 zch fuel x1 x2 0
end
mutual
def zcB (fuel : Nat) (x1 : Form) (x2 : (List Hit)) (g1 : Int) : Option Int :=
 match fuel with
 | 0 => none
 | fuel + 1 =>
 (idx x2 g1).bind fun v17 =>
 zbE fuel x1 x2 (g1 + 1) (v17.many.length : Int)
def zbY (fuel : Nat) (x1 : Form) (x2 : (List Hit)) (g1 : Int) (g2 : Int) (g10 : Bool) : Option Int :=
 match fuel with
 | 0 => none
 | fuel + 1 =>
 (bif g10 then
 zbE fuel x1 x2 (g1 + 1) g2
 else
 (bif (decide (0 ≤ g2)) then
 (idx x2 g1).bind fun v14 =>
 (bif (decide (g2 ≠ (v14.many.length : Int))) then
 some (-1)
 else
 zcB fuel x1 x2 g1 )
 else
 zcB fuel x1 x2 g1 ))
def zbE (fuel : Nat) (x1 : Form) (x2 : (List Hit)) (g1 : Int) (g2 : Int) : Option Int :=
 match fuel with
 | 0 => none
 | fuel + 1 =>
 (bif (decide (g1 < (x2.length : Int))) then
 (idx x2 g1).bind fun v6 =>
 (bif (decide (v6.depth = 0)) then
 zbY fuel x1 x2 g1 g2 true
 else
 (idx x2 g1).bind fun v8 =>
 (zdB fuel x1 v8.name).bind fun v9 =>
 zbY fuel x1 x2 g1 g2 (!v9))
 else
 some g2)
end
def zfh (fuel : Nat) (x1 : Form) (x2 : (List Hit)) : Option Int :=
 zbE fuel x1 x2 0 (-1)
mutual
def zcN (fuel : Nat) (x1 : Form) (x2 : (List Hit)) (x3 : Int) (g1 : (List Hit)) (g2 : Int) (v6 : Hit) (g9 : Bool) : Option (List Hit) :=
 match fuel with
 | 0 => none
 | fuel + 1 =>
 (bif g9 then
 (idx v6.many x3).bind fun v12 =>
 chk (decide ((g1.length + [v12].length) * 192 ≤ 140737488355328)) <|
 zb7 fuel x1 x2 x3 (g1 ++ [v12]) (g2 + 1)
 else
 chk (decide ((g1.length + [v6].length) * 192 ≤ 140737488355328)) <|
 zb7 fuel x1 x2 x3 (g1 ++ [v6]) (g2 + 1))
def zb7 (fuel : Nat) (x1 : Form) (x2 : (List Hit)) (x3 : Int) (g1 : (List Hit)) (g2 : Int) : Option (List Hit) :=
 match fuel with
 | 0 => none
 | fuel + 1 =>
 (bif (decide (g2 < (x2.length : Int))) then
 (idx x2 g2).bind fun v6 =>
 (bif (decide (0 < v6.depth)) then
 (zdB fuel x1 v6.name).bind fun v8 =>
 zcN fuel x1 x2 x3 g1 g2 v6 v8
 else
 zcN fuel x1 x2 x3 g1 g2 v6 false)
 else
 some g1)
end
def zfO (fuel : Nat) (x1 : Form) (x2 : (List Hit)) (x3 : Int) : Option (List Hit) :=
 zb7 fuel x1 x2 x3 ([] : List Hit) 0
mutual
def zc9 (fuel : Nat) (x1 : Form) (x2 : (List Hit)) : Option (Form × Bool) :=
 match fuel with
 | 0 => none
 | fuel + 1 =>
 (bif (decide (x1.kind = 1)) then
 (zd5 fuel x2 x1).bind fun v2 =>
 zcn fuel x1 x2 v2
 else
 zcn fuel x1 x2 (-1))
def zck (fuel : Nat) (x1 : Form) (x2 : (List Hit)) (g10 : Int) (g22 : Bool) (g27 : Int) (g30 : Int) (g31 : Int) (g32 : (List Form)) (v41 : Form × Bool) (v42 : Int) (g44 : Bool) : Option (Form × Bool) :=
 match fuel with
 | 0 => none
 | fuel + 1 =>
 (bif g44 then
 some (x1, false)
 else
 chk (decide ((g32.length + [v41.1].length) * 80 ≤ 140737488355328)) <|
 zcj fuel x1 x2 g10 g22 g27 (w64 (g30 + v42)) (w64 (g31 + 1)) (g32 ++ [v41.1]))
def zcW (fuel : Nat) (x1 : Form) (x2 : (List Hit)) (g10 : Int) (g22 : Bool) (g27 : Int) (g30 : Int) (g31 : Int) (g32 : (List Form)) (g38 : (List Hit)) : Option (Form × Bool) :=
 match fuel with
 | 0 => none
 | fuel + 1 =>
 (idx x1.kids g10).bind fun v40 =>
 (zc9 fuel v40 g38).bind fun v41 =>
 (zdf fuel v41.1).bind fun v42 =>
 (bif (!v41.2) then
 zck fuel x1 x2 g10 g22 g27 g30 g31 g32 v41 v42 true
 else
 zck fuel x1 x2 g10 g22 g27 g30 g31 g32 v41 v42 (decide (400 < (w64 (g30 + v42)))))
def zcj (fuel : Nat) (x1 : Form) (x2 : (List Hit)) (g10 : Int) (g22 : Bool) (g27 : Int) (g30 : Int) (g31 : Int) (g32 : (List Form)) : Option (Form × Bool) :=
 match fuel with
 | 0 => none
 | fuel + 1 =>
 (bif (decide (g31 < g27)) then
 (bif g22 then
 (idx x1.kids g10).bind fun v36 =>
 (zfO fuel v36 x2 g31).bind fun v37 =>
 zcW fuel x1 x2 g10 g22 g27 g30 g31 g32 v37
 else
 zcW fuel x1 x2 g10 g22 g27 g30 g31 g32 x2)
 else
 zbz fuel x1 x2 (w64 (g10 + 1)) g30 g32)
def zcl (fuel : Nat) (x1 : Form) (x2 : (List Hit)) (g10 : Int) (g11 : Int) (g12 : (List Form)) (g22 : Bool) (g27 : Int) : Option (Form × Bool) :=
 match fuel with
 | 0 => none
 | fuel + 1 =>
 (bif (decide (g27 < 0)) then
 some (x1, false)
 else
 zcj fuel x1 x2 g10 g22 g27 g11 0 g12)
def zcm (fuel : Nat) (x1 : Form) (x2 : (List Hit)) (g10 : Int) (g11 : Int) (g12 : (List Form)) (g22 : Bool) : Option (Form × Bool) :=
 match fuel with
 | 0 => none
 | fuel + 1 =>
 (bif g22 then
 (idx x1.kids g10).bind fun v25 =>
 (zfh fuel v25 x2).bind fun v26 =>
 zcl fuel x1 x2 g10 g11 g12 g22 v26
 else
 zcl fuel x1 x2 g10 g11 g12 g22 1)
def zbz (fuel : Nat) (x1 : Form) (x2 : (List Hit)) (g10 : Int) (g11 : Int) (g12 : (List Form)) : Option (Form × Bool) :=
 match fuel with
 | 0 => none
 | fuel + 1 =>
 (bif (decide (g10 < (x1.kids.length : Int))) then
 (idx x1.kids g10).bind fun v16 =>
 (zaQ fuel v16).bind fun v17 =>
 (bif v17 then
 zbz fuel x1 x2 (g10 + 1) g11 g12
 else
 (bif (decide ((g10 + 1) < (x1.kids.length : Int))) then
 (idx x1.kids (g10 + 1)).bind fun v20 =>
 (zaQ fuel v20).bind fun v21 =>
 zcm fuel x1 x2 g10 g11 g12 v21
 else
 zcm fuel x1 x2 g10 g11 g12 false))
 else
 some ((Form.mk x1.kind x1.name x1.n (([] : List Int) ++ x1.scopes) g12), true))
def zcn (fuel : Nat) (x1 : Form) (x2 : (List Hit)) (g3 : Int) : Option (Form × Bool) :=
 match fuel with
 | 0 => none
 | fuel + 1 =>
 (bif (decide (0 ≤ g3)) then
 (idx x2 g3).bind fun v6 =>
 (za1 fuel v6.one).bind fun v7 =>
 (idx x2 g3).bind fun v8 =>
 some (v7, (decide (v8.depth = 0)))
 else
 chk (decide ((([] : List Int).length + x1.scopes.length) * 8 ≤ 140737488355328)) <|
 zbz fuel x1 x2 0 0 ([] : List Form))
end
def zdp (fuel : Nat) (x1 : Form) (x2 : (List Hit)) : Option (Form × Bool) :=
 (zbG fuel x1).bind fun v1 =>
 (zc5 fuel v1 x2).bind fun v2 =>
 (bif (!v2) then
 some ((Form.mk 0 (⟨#[]⟩ : ByteArray) 0 ([] : List Int) ([] : List Form)), false)
 else
 (zc9 fuel v1 x2).bind fun v4 =>
 (bif (!v4.2) then
 some ((Form.mk 0 (⟨#[]⟩ : ByteArray) 0 ([] : List Int) ([] : List Form)), false)
 else
 (zaB fuel v4.1).bind fun v6 =>
 (bif (!v6) then
 some ((Form.mk 0 (⟨#[]⟩ : ByteArray) 0 ([] : List Int) ([] : List Form)), false)
 else
 some (v4.1, true))))
mutual
def zdO (fuel : Nat) (x1 : Form) (x2 : Form) : Option Int :=
 match fuel with
 | 0 => none
 | fuel + 1 =>
 (zay fuel x1 x2).bind fun v1 =>
 (bif v1 then
 zcH fuel x1 x2 1
 else
 zcH fuel x1 x2 0)
def zb1 (fuel : Nat) (x1 : Form) (x2 : Form) (g5 : Int) (g6 : Int) : Option Int :=
 match fuel with
 | 0 => none
 | fuel + 1 =>
 (bif (decide (g6 < (x1.kids.length : Int))) then
 (idx x1.kids g6).bind fun v10 =>
 (zdO fuel v10 x2).bind fun v11 =>
 zb1 fuel x1 x2 (w64 (g5 + v11)) (g6 + 1)
 else
 some g5)
def zcH (fuel : Nat) (x1 : Form) (x2 : Form) (g3 : Int) : Option Int :=
 match fuel with
 | 0 => none
 | fuel + 1 =>
 zb1 fuel x1 x2 g3 0
end
mutual
def zcg (fuel : Nat) (g17 : Bool) : Option Bool :=
 match fuel with
 | 0 => none
 | fuel + 1 =>
 some g17
def zbh (fuel : Nat) (v3 : Form × (List Hit)) (v4 : Form × Bool) (g20 : Int) (g21 : Int) : Option Bool :=
 match fuel with
 | 0 => none
 | fuel + 1 =>
 (bif (decide (g21 < (v3.2.length : Int))) then
 (idx v3.2 g21).bind fun v25 =>
 (zdO fuel v3.1 v25.name).bind fun v26 =>
 (idx v3.2 g21).bind fun v27 =>
 (zbx fuel v27.one).bind fun v28 =>
 zbh fuel v3 v4 (w64 (g20 + (w64 (v26 * (w64 (v28 - 1)))))) (g21 + 1)
 else
 (zbx fuel v4.1).bind fun v29 =>
 some (decide (v29 = g20)))
def zax (fuel : Nat) (v3 : Form × (List Hit)) (v4 : Form × Bool) (v5 : Form × Bool) (g12 : Bool) : Option Bool :=
 match fuel with
 | 0 => none
 | fuel + 1 =>
 (bif g12 then
 (zay fuel v4.1 v5.1).bind fun v15 =>
 (bif v15 then
 zcg fuel  (decide (v4.2 = v5.2))
 else
 zcg fuel  false)
 else
 (zbx fuel v3.1).bind fun v19 =>
 zbh fuel v3 v4 v19 0)
end
def zfb (fuel : Nat) (x1 : (List Int)) : Option Bool :=
 (bif (decide (1048576 < (x1.length : Int))) then
 some true
 else
 (zca fuel x1).bind fun v3 =>
 (zdr fuel v3.1 v3.2).bind fun v4 =>
 (zdp fuel v3.1 v3.2).bind fun v5 =>
 (zay fuel v4.1 v5.1).bind fun v6 =>
 (bif (!v6) then
 zax fuel v3 v4 v5 true
 else
 (bif (decide (v4.2 ≠ v5.2)) then
 zax fuel v3 v4 v5 true
 else
 (bif (!v4.2) then
 zax fuel v3 v4 v5 true
 else
 (zfn fuel v3.1).bind fun v10 =>
 (zev fuel v10 (⟨#[46, 46, 46]⟩ : ByteArray)).bind fun v11 =>
 zax fuel v3 v4 v5 v11))))
end Go.Abs
