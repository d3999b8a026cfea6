/- A part of the proof: what the functions that the law calls answer, as pure values. -/
import Derived.Test.YtcllpfmjggkpnaaGreatK73f09199af94
import Derived.Test.YtcllpfmjggkpnaaGreatKa15390ddf9b4
import Derived.Test.YtcllpfmjggkpnaaGreatKfed158489141
set_option linter.unusedSimpArgs false
set_option linter.unusedVariables false
set_option maxHeartbeats 4000000
namespace Go.Abs
mutual
def zdg (fuel : Nat) (x1 : (List Bind)) (x2 : Form) (x3 : (List Form)) (x4 : Form) : Option ((List Hit) × Bool) :=
 match fuel with
 | 0 => none
 | fuel + 1 =>
 (bif (decide (x2.kind = 1)) then
 (bif (decide (x2.name = (⟨#[95]⟩ : ByteArray))) then
 some (([] : List Hit), true)
 else
 (zew fuel x3 x2).bind fun v3 =>
 (bif v3 then
 (zcJ fuel x1 x2 x4).bind fun v5 =>
 some (([] : List Hit), v5)
 else
 (zaQ fuel x2).bind fun v6 =>
 (zaQ fuel x4).bind fun v7 =>
 some ([(Hit.mk v6 0 v7 ([] : List Hit))], true)))
 else
 (bif (decide (x2.kind = 2)) then
 (zaC fuel x2 x4).bind fun v9 =>
 some (([] : List Hit), v9)
 else
 (bif (decide (x4.kind ≠ 3)) then
 some (([] : List Hit), false)
 else
 (zdO fuel x2.kids).bind fun v11 =>
 (bif (decide (v11 < 0)) then
 (bif (decide ((x2.kids.length : Int) ≠ (x4.kids.length : Int))) then
 some (([] : List Hit), false)
 else
 zct fuel x1 x2 x3 x4 0 ([] : List Hit))
 else
 (bif (decide ((w64 ((x4.kids.length : Int) - (w64 ((x2.kids.length : Int) - 2)))) < 0)) then
 some (([] : List Hit), false)
 else
 zcs fuel x1 x2 x3 x4 v11 0 ([] : List Hit))))))
def zct (fuel : Nat) (x1 : (List Bind)) (x2 : Form) (x3 : (List Form)) (x4 : Form) (g14 : Int) (g15 : (List Hit)) : Option ((List Hit) × Bool) :=
 match fuel with
 | 0 => none
 | fuel + 1 =>
 (bif (decide (g14 < (x2.kids.length : Int))) then
 (idx x2.kids g14).bind fun v19 =>
 (idx x4.kids g14).bind fun v20 =>
 (zcR fuel v19 v20 x1 x3 g15).bind fun v21 =>
 (bif (!v21.1) then
 some (([] : List Hit), false)
 else
 zct fuel x1 x2 x3 x4 (g14 + 1) v21.2)
 else
 zeu fuel  g15)
def zeu (fuel : Nat) (g23 : (List Hit)) : Option ((List Hit) × Bool) :=
 match fuel with
 | 0 => none
 | fuel + 1 =>
 some (g23, true)
def zcs (fuel : Nat) (x1 : (List Bind)) (x2 : Form) (x3 : (List Form)) (x4 : Form) (v11 : Int) (g26 : Int) (g27 : (List Hit)) : Option ((List Hit) × Bool) :=
 match fuel with
 | 0 => none
 | fuel + 1 =>
 (bif (decide (g26 < (w64 (v11 - 1)))) then
 (idx x2.kids g26).bind fun v30 =>
 (idx x4.kids g26).bind fun v31 =>
 (zcR fuel v30 v31 x1 x3 g27).bind fun v32 =>
 (bif (!v32.1) then
 some (([] : List Hit), false)
 else
 zcs fuel x1 x2 x3 x4 v11 (w64 (g26 + 1)) v32.2)
 else
 zdx fuel x1 x2 x3 x4 v11 g27)
def zbU (fuel : Nat) (x1 : (List Bind)) (x2 : Form) (x3 : (List Form)) (x4 : Form) (v11 : Int) (g34 : (List Hit)) (v37 : (List Form) × (List Int)) (g38 : (List Hit)) (g39 : Int) : Option ((List Hit) × Bool) :=
 match fuel with
 | 0 => none
 | fuel + 1 =>
 (bif (decide (g39 < (v37.1.length : Int))) then
 (idx v37.1 g39).bind fun v43 =>
 (zaQ fuel v43).bind fun v44 =>
 (idx v37.2 g39).bind fun v45 =>
 chk (decide ((g38.length + [(Hit.mk v44 (w64 (v45 + 1)) (Form.mk 0 (⟨#[]⟩ : ByteArray) 0 ([] : List Int) ([] : List Form)) ([] : List Hit))].length) * 192 ≤ 140737488355328)) <|
 zbU fuel x1 x2 x3 x4 v11 g34 v37 (g38 ++ [(Hit.mk v44 (w64 (v45 + 1)) (Form.mk 0 (⟨#[]⟩ : ByteArray) 0 ([] : List Int) ([] : List Form)) ([] : List Hit))]) (g39 + 1)
 else
 zdw fuel x1 x2 x3 x4 v11 g34 g38)
def zbT (fuel : Nat) (x1 : (List Bind)) (x2 : Form) (x3 : (List Form)) (x4 : Form) (v11 : Int) (g34 : (List Hit)) (v49 : (List Form)) (g50 : Int) (g51 : (List Hit)) (v57 : (List Hit) × Bool) (g59 : Int) (g60 : (List Hit)) : Option ((List Hit) × Bool) :=
 match fuel with
 | 0 => none
 | fuel + 1 =>
 (bif (decide (g59 < (g51.length : Int))) then
 (idx g60 g59).bind fun v63 =>
 (idx v57.1 g59).bind fun v64 =>
 chk (decide ((v63.many.length + [(Hit.mk (Form.mk 0 (⟨#[]⟩ : ByteArray) 0 ([] : List Int) ([] : List Form)) 0 (Form.mk 0 (⟨#[]⟩ : ByteArray) 0 ([] : List Int) ([] : List Form)) ([] : List Hit))].length) * 192 ≤ 140737488355328)) <|
 (idx (v63.many ++ [(Hit.mk (Form.mk 0 (⟨#[]⟩ : ByteArray) 0 ([] : List Int) ([] : List Form)) 0 (Form.mk 0 (⟨#[]⟩ : ByteArray) 0 ([] : List Int) ([] : List Form)) ([] : List Hit))]) (v63.many.length : Int)).bind fun v66 =>
 (idx g60 g59).bind fun v67 =>
 zbT fuel x1 x2 x3 x4 v11 g34 v49 g50 g51 v57 (w64 (g59 + 1)) (g60.set g59.toNat (Hit.mk v63.name v63.depth v63.one ((v63.many ++ [(Hit.mk (Form.mk 0 (⟨#[]⟩ : ByteArray) 0 ([] : List Int) ([] : List Form)) 0 (Form.mk 0 (⟨#[]⟩ : ByteArray) 0 ([] : List Int) ([] : List Form)) ([] : List Hit))]).set (v63.many.length : Int).toNat v64)))
 else
 zbH fuel x1 x2 x3 x4 v11 g34 v49 (w64 (g50 + 1)) g60)
def zbH (fuel : Nat) (x1 : (List Bind)) (x2 : Form) (x3 : (List Form)) (x4 : Form) (v11 : Int) (g34 : (List Hit)) (v49 : (List Form)) (g50 : Int) (g51 : (List Hit)) : Option ((List Hit) × Bool) :=
 match fuel with
 | 0 => none
 | fuel + 1 =>
 (bif (decide (g50 < (v49.length : Int))) then
 (idx v49 g50).bind fun v55 =>
 (idx x2.kids (w64 (v11 - 1))).bind fun v56 =>
 (zdg fuel x1 v56 x3 v55).bind fun v57 =>
 (bif (!v57.2) then
 some (([] : List Hit), false)
 else
 zbT fuel x1 x2 x3 x4 v11 g34 v49 g50 g51 v57 0 g51)
 else
 zcY fuel x1 x2 x3 x4 v11 g34 g51)
def zb5 (fuel : Nat) (x1 : (List Bind)) (x2 : Form) (x3 : (List Form)) (x4 : Form) (v11 : Int) (g71 : Int) (g72 : (List Hit)) : Option ((List Hit) × Bool) :=
 match fuel with
 | 0 => none
 | fuel + 1 =>
 (bif (decide (g71 < (x2.kids.length : Int))) then
 (idx x2.kids g71).bind fun v76 =>
 (idx x4.kids (w64 ((w64 ((w64 ((w64 ((w64 (v11 - 1)) + (w64 ((x4.kids.length : Int) - (w64 ((x2.kids.length : Int) - 2)))))) + g71)) - v11)) - 1))).bind fun v77 =>
 (zcR fuel v76 v77 x1 x3 g72).bind fun v78 =>
 (bif (!v78.1) then
 some (([] : List Hit), false)
 else
 zb5 fuel x1 x2 x3 x4 v11 (g71 + 1) v78.2)
 else
 some (g72, true))
def zcY (fuel : Nat) (x1 : (List Bind)) (x2 : Form) (x3 : (List Form)) (x4 : Form) (v11 : Int) (g34 : (List Hit)) (g68 : (List Hit)) : Option ((List Hit) × Bool) :=
 match fuel with
 | 0 => none
 | fuel + 1 =>
 chk (decide ((g34.length + g68.length) * 192 ≤ 140737488355328)) <|
 zb5 fuel x1 x2 x3 x4 v11 (w64 (v11 + 1)) (g34 ++ g68)
def zdw (fuel : Nat) (x1 : (List Bind)) (x2 : Form) (x3 : (List Form)) (x4 : Form) (v11 : Int) (g34 : (List Hit)) (g47 : (List Hit)) : Option ((List Hit) × Bool) :=
 match fuel with
 | 0 => none
 | fuel + 1 =>
 (sub x4.kids (w64 (v11 - 1)) (w64 ((w64 (v11 - 1)) + (w64 ((x4.kids.length : Int) - (w64 ((x2.kids.length : Int) - 2))))))).bind fun v49 =>
 zbH fuel x1 x2 x3 x4 v11 g34 v49 0 g47
def zdx (fuel : Nat) (x1 : (List Bind)) (x2 : Form) (x3 : (List Form)) (x4 : Form) (v11 : Int) (g34 : (List Hit)) : Option ((List Hit) × Bool) :=
 match fuel with
 | 0 => none
 | fuel + 1 =>
 (idx x2.kids (w64 (v11 - 1))).bind fun v36 =>
 (zeK fuel v36 x3).bind fun v37 =>
 zbU fuel x1 x2 x3 x4 v11 g34 v37 ([] : List Hit) 0
def zcR (fuel : Nat) (x1 : Form) (x2 : Form) (o1 : (List Bind)) (o2 : (List Form)) (o3 : (List Hit)) : Option (Bool × (List Hit)) :=
 match fuel with
 | 0 => none
 | fuel + 1 =>
 (zdg fuel o1 x1 o2 x2).bind fun v1 =>
 chk (decide ((o3.length + v1.1.length) * 192 ≤ 140737488355328)) <|
 some (v1.2, (o3 ++ v1.1))
end
def zaF (fuel : Nat) (x1 : (List Bind)) (x2 : Form) (x3 : (List Form)) (x4 : Form) (g6 : Bool) : Option ((List Hit) × Bool) :=
 match fuel with
 | 0 => none
 | fuel + 1 =>
 (bif g6 then
 some (([] : List Hit), false)
 else
 (zdg fuel x1 x2 x3 x4).bind fun v9 =>
 (bif (!v9.2) then
 some (([] : List Hit), false)
 else
 some (v9.1, true)))
def zch (fuel : Nat) (x1 : (List Bind)) (x2 : Form) (x3 : (List Form)) (x4 : Form) : Option ((List Hit) × Bool) :=
 (zcj fuel x1).bind fun v1 =>
 (bif (!v1) then
 zaF fuel x1 x2 x3 x4 true
 else
 (zc1 fuel x2 x3).bind fun v3 =>
 (bif (!v3) then
 zaF fuel x1 x2 x3 x4 true
 else
 (zbt fuel x4).bind fun v5 =>
 zaF fuel x1 x2 x3 x4 (!v5)))
def zgk (fuel : Nat) (x1 : Form) : Option (Form × Bool) :=
 (zbt fuel x1).bind fun v1 =>
 (bif (!v1) then
 some ((Form.mk 0 (⟨#[]⟩ : ByteArray) 0 ([] : List Int) ([] : List Form)), false)
 else
 (zaQ fuel x1).bind fun v3 =>
 some (v3, true))
def zdm (fuel : Nat) (x1 : List Int) (x2 : Int) : Option (Int × Bool) :=
 chk (decide (x1.length < 4611686018427387904)) <|
 chk (decide (x1.Pairwise (· ≤ ·))) <|
 some ((x1.countP (· < x2) : Nat), x1.contains x2)
def zff (fuel : Nat) (x1 : List Int) (x2 : Int) (x3 : List Int) : Option (List Int) :=
 chk (decide (0 ≤ x2)) <|
 chk (decide (x2 ≤ x1.length)) <|
 chk (decide ((x1.length + 1) * 8 ≤ 140737488355328)) <|
 chk (decide (x3.length = 1)) <|
 some (x1.take x2.toNat ++ x3 ++ x1.drop x2.toNat)
def zea (fuel : Nat) (x1 : (List Int)) (x2 : Int) : Option (List Int) :=
 (zdm fuel x1 x2).bind fun v1 =>
 (bif v1.2 then
 some x1
 else
 (zff fuel x1 v1.1 [x2]).bind fun v3 =>
 some v3)
def zeO (fuel : Nat) (x1 : (List Int)) (o1 : Int) : Option (List Int) :=
 (zea fuel x1 o1).bind fun v1 =>
 some v1
mutual
def zaw (fuel : Nat) (x1 : Form) (o1 : Int) : Option Form :=
 match fuel with
 | 0 => none
 | fuel + 1 =>
 (bif (decide (x1.kind = 1)) then
 (zcA fuel x1.scopes).bind fun v2 =>
 (zeO fuel v2 o1).bind fun v3 =>
 zau fuel x1 o1 v3
 else
 zau fuel x1 o1 ([] : List Int))
def zat (fuel : Nat) (x1 : Form) (o1 : Int) (g4 : (List Int)) (g6 : Int) (g7 : (List Form)) : Option Form :=
 match fuel with
 | 0 => none
 | fuel + 1 =>
 (bif (decide (g6 < (x1.kids.length : Int))) then
 (idx x1.kids g6).bind fun v11 =>
 (zaw fuel v11 o1).bind fun v12 =>
 chk (decide ((g7.length + [v12].length) * 80 ≤ 140737488355328)) <|
 zat fuel x1 o1 g4 (g6 + 1) (g7 ++ [v12])
 else
 some (Form.mk x1.kind x1.name x1.n g4 g7))
def zau (fuel : Nat) (x1 : Form) (o1 : Int) (g4 : (List Int)) : Option Form :=
 match fuel with
 | 0 => none
 | fuel + 1 =>
 zat fuel x1 o1 g4 0 ([] : List Form)
end
def zae (fuel : Nat) (x1 : Form) (o1 : Int) (g4 : Bool) : Option (Form × Bool) :=
 match fuel with
 | 0 => none
 | fuel + 1 =>
 (bif g4 then
 some ((Form.mk 0 (⟨#[]⟩ : ByteArray) 0 ([] : List Int) ([] : List Form)), false)
 else
 (zaw fuel x1 o1).bind fun v7 =>
 (zgk fuel v7).bind fun v8 =>
 some (v8.1, v8.2))
def zb8 (fuel : Nat) (x1 : Form) (x2 : Int) (o1 : Int) : Option (Form × Bool) :=
 (zbt fuel x1).bind fun v1 =>
 (bif (!v1) then
 zae fuel x1 o1 true
 else
 (zco fuel x2 1 99).bind fun v3 =>
 zae fuel x1 o1 (!v3))
def zdC (fuel : Nat) (x1 : Form) (x2 : Int) : Option (Form × Bool) :=
 (zb8 fuel x1 x2 x2).bind fun v1 =>
 some (v1.1, v1.2)
mutual
def zbE (fuel : Nat) (g16 : Bool) : Option Bool :=
 match fuel with
 | 0 => none
 | fuel + 1 =>
 some g16
def zbC (fuel : Nat) (v4 : (List Hit) × Bool) (v18 : (List Hit) × Bool) (g23 : Int) (v28 : (List Form)) (v30 : (List Form)) (g32 : Int) (g41 : Bool) : Option Bool :=
 match fuel with
 | 0 => none
 | fuel + 1 =>
 (bif g41 then
 some false
 else
 zaV fuel v4 v18 g23 v28 v30 (g32 + 1))
def zaV (fuel : Nat) (v4 : (List Hit) × Bool) (v18 : (List Hit) × Bool) (g23 : Int) (v28 : (List Form)) (v30 : (List Form)) (g32 : Int) : Option Bool :=
 match fuel with
 | 0 => none
 | fuel + 1 =>
 (bif (decide (g32 < (v28.length : Int))) then
 (idx v28 g32).bind fun v36 =>
 (zdC fuel v36 55).bind fun v37 =>
 (bif (!v37.2) then
 zbC fuel v4 v18 g23 v28 v30 g32 true
 else
 (idx v30 g32).bind fun v39 =>
 (zaC fuel v37.1 v39).bind fun v40 =>
 zbC fuel v4 v18 g23 v28 v30 g32 (!v40))
 else
 zaW fuel v4 v18 (w64 (g23 + 1)))
def zaW (fuel : Nat) (v4 : (List Hit) × Bool) (v18 : (List Hit) × Bool) (g23 : Int) : Option Bool :=
 match fuel with
 | 0 => none
 | fuel + 1 =>
 (bif (decide (g23 < (v4.1.length : Int))) then
 (idx v4.1 g23).bind fun v27 =>
 (zdA fuel v27).bind fun v28 =>
 (idx v18.1 g23).bind fun v29 =>
 (zdA fuel v29).bind fun v30 =>
 (bif (decide ((v28.length : Int) ≠ (v30.length : Int))) then
 some false
 else
 zaV fuel v4 v18 g23 v28 v30 0)
 else
 some true)
def zbD (fuel : Nat) (v4 : (List Hit) × Bool) (v18 : (List Hit) × Bool) (g20 : Bool) : Option Bool :=
 match fuel with
 | 0 => none
 | fuel + 1 =>
 (bif g20 then
 some false
 else
 zaW fuel v4 v18 0)
def zao (fuel : Nat) (v3 : (List Bind) × Form × (List Form) × Form) (v4 : (List Hit) × Bool) (v5 : (List Hit) × Bool) (v6 : Form × Bool) (g11 : Bool) : Option Bool :=
 match fuel with
 | 0 => none
 | fuel + 1 =>
 (bif g11 then
 (zdz fuel v4.1 v5.1).bind fun v14 =>
 (bif v14 then
 zbE fuel  (decide (v4.2 = v5.2))
 else
 zbE fuel  false)
 else
 (zch fuel v3.1 v3.2.1 ([] : List Form) v6.1).bind fun v18 =>
 (bif (!v18.2) then
 zbD fuel v4 v18 true
 else
 zbD fuel v4 v18 (decide ((v18.1.length : Int) ≠ (v4.1.length : Int)))))
end
def zdM (fuel : Nat) (x1 : (List Int)) : Option Bool :=
 (bif (decide (1048576 < (x1.length : Int))) then
 some true
 else
 (zbS fuel x1).bind fun v3 =>
 (zch fuel v3.1 v3.2.1 ([] : List Form) v3.2.2.2).bind fun v4 =>
 (zcX fuel v3.1 v3.2.1 ([] : List Form) v3.2.2.2).bind fun v5 =>
 (zdC fuel v3.2.2.2 55).bind fun v6 =>
 (zdz fuel v4.1 v5.1).bind fun v7 =>
 (bif (!v7) then
 zao fuel v3 v4 v5 v6 true
 else
 (bif (decide (v4.2 ≠ v5.2)) then
 zao fuel v3 v4 v5 v6 true
 else
 (bif (!v4.2) then
 zao fuel v3 v4 v5 v6 true
 else
 zao fuel v3 v4 v5 v6 (!v6.2)))))
end Go.Abs
