/- A part of the proof: what the functions that the law calls answer, as pure values. -/
import Derived.Test.YtcllpfmjggkpnaaGreatK73f09199af94
import Derived.Test.YtcllpfmjggkpnaaGreatKfed158489141
set_option linter.unusedSimpArgs false
set_option linter.unusedVariables false
set_option maxHeartbeats 4000000
namespace Go.Abs
def zgb (fuel : Nat) (x1 : ByteArray) : Option (Form × Bool) :=
 (zfu fuel x1 0 40).bind fun v1 =>
 (bif (decide (v1.2 < 0)) then
 some ((Form.mk 0 (⟨#[]⟩ : ByteArray) 0 ([] : List Int) ([] : List Form)), false)
 else
 (zeG fuel x1 v1.2).bind fun v3 =>
 (bif (decide (v3 ≠ (x1.size : Int))) then
 some ((Form.mk 0 (⟨#[]⟩ : ByteArray) 0 ([] : List Int) ([] : List Form)), false)
 else
 (zb4 fuel v1.1).bind fun v5 =>
 (bif (!v5) then
 some ((Form.mk 0 (⟨#[]⟩ : ByteArray) 0 ([] : List Int) ([] : List Form)), false)
 else
 some (v1.1, true))))
def zec (fuel : Nat) (x1 : ByteArray) : Option Form :=
 (zgb fuel x1).bind fun v1 =>
 some v1.1
def zfv (fuel : Nat) (x1 : ByteArray) : Option Form :=
 some (Form.mk 1 x1 0 ([] : List Int) ([] : List Form))
mutual
def zcn (fuel : Nat) (x1 : Form) : Option Form :=
 match fuel with
 | 0 => none
 | fuel + 1 =>
 chk (decide ((([] : List Int).length + x1.scopes.length) * 8 ≤ 140737488355328)) <|
 zb3 fuel x1 0 ([] : List Form)
def zb3 (fuel : Nat) (x1 : Form) (g2 : Int) (g3 : (List Form)) : Option Form :=
 match fuel with
 | 0 => none
 | fuel + 1 =>
 (bif (decide (g2 < (x1.kids.length : Int))) then
 (idx x1.kids g2).bind fun v7 =>
 (zcn fuel v7).bind fun v8 =>
 chk (decide ((g3.length + [v8].length) * 80 ≤ 140737488355328)) <|
 zb3 fuel x1 (g2 + 1) (g3 ++ [v8])
 else
 some (Form.mk x1.kind x1.name x1.n (([] : List Int) ++ x1.scopes) g3))
end
def zaM (fuel : Nat) (o1 : zb9) (x2 : (List Int)) : Option (Int × zb9) :=
 (zad fuel o1 (x2.length : Int)).bind fun v1 =>
 (idx x2 v1.1).bind fun v2 =>
 some (v2, v1.2)
def zcW (fuel : Nat) (o1 : zb9) (x2 : (List ByteArray)) : Option (ByteArray × zb9) :=
 (zad fuel o1 (x2.length : Int)).bind fun v1 =>
 (idx x2 v1.1).bind fun v2 =>
 some (v2, v1.2)
def za8 (fuel : Nat) (o1 : zb9) (x2 : Form) : Option (Form × zb9) :=
 match fuel with
 | 0 => none
 | fuel + 1 =>
 (zcn fuel x2).bind fun v1 =>
 (bif (decide (0 < (v1.kids.length : Int))) then
 (zad fuel o1 2).bind fun v3 =>
 (bif (decide (0 < v3.1)) then
 (zad fuel v3.2 (v1.kids.length : Int)).bind fun v5 =>
 (idx v1.kids v5.1).bind fun v6 =>
 (za8 fuel v5.2 v6).bind fun v7 =>
 (idx v1.kids v5.1).bind fun v8 =>
 some ((Form.mk v1.kind v1.name v1.n v1.scopes (v1.kids.set v5.1.toNat v7.1)), v7.2)
 else
 (zad fuel v3.2 14).bind fun v9 =>
 (bif (decide (v9.1 = 0)) then
 (zaM fuel v9.2 [0, 4, 1, 3]).bind fun v11 =>
 some ((Form.mk v11.1 v1.name v1.n v1.scopes v1.kids), v11.2)
 else
 (bif (decide (v9.1 = 1)) then
 (zcW fuel v9.2 [(⟨#[]⟩ : ByteArray), (⟨#[65]⟩ : ByteArray), (⟨#[116, 111, 111, 108, 111, 110, 103, 97, 110, 97, 109, 101, 49]⟩ : ByteArray), (⟨#[122]⟩ : ByteArray), (⟨#[120, 32, 121]⟩ : ByteArray)]).bind fun v13 =>
 some ((Form.mk v1.kind v13.1 v1.n v1.scopes v1.kids), v13.2)
 else
 (bif (decide (v9.1 = 2)) then
 (zaM fuel v9.2 [1000, (-1), 5]).bind fun v15 =>
 some ((Form.mk v1.kind v1.name v15.1 v1.scopes v1.kids), v15.2)
 else
 (bif (decide (v9.1 = 3)) then
 (zaM fuel v9.2 [0, 100, 1, 50]).bind fun v17 =>
 chk (decide ((v1.scopes.length + [v17.1].length) * 8 ≤ 140737488355328)) <|
 some ((Form.mk v1.kind v1.name v1.n (v1.scopes ++ [v17.1]) v1.kids), v17.2)
 else
 some (v1, v9.2))))))
 else
 (zad fuel o1 14).bind fun v19 =>
 (bif (decide (v19.1 = 0)) then
 (zaM fuel v19.2 [0, 4, 1, 3]).bind fun v21 =>
 some ((Form.mk v21.1 v1.name v1.n v1.scopes v1.kids), v21.2)
 else
 (bif (decide (v19.1 = 1)) then
 (zcW fuel v19.2 [(⟨#[]⟩ : ByteArray), (⟨#[65]⟩ : ByteArray), (⟨#[116, 111, 111, 108, 111, 110, 103, 97, 110, 97, 109, 101, 49]⟩ : ByteArray), (⟨#[122]⟩ : ByteArray), (⟨#[120, 32, 121]⟩ : ByteArray)]).bind fun v23 =>
 some ((Form.mk v1.kind v23.1 v1.n v1.scopes v1.kids), v23.2)
 else
 (bif (decide (v19.1 = 2)) then
 (zaM fuel v19.2 [1000, (-1), 5]).bind fun v25 =>
 some ((Form.mk v1.kind v1.name v25.1 v1.scopes v1.kids), v25.2)
 else
 (bif (decide (v19.1 = 3)) then
 (zaM fuel v19.2 [0, 100, 1, 50]).bind fun v27 =>
 chk (decide ((v1.scopes.length + [v27.1].length) * 8 ≤ 140737488355328)) <|
 some ((Form.mk v1.kind v1.name v1.n (v1.scopes ++ [v27.1]) v1.kids), v27.2)
 else
 some (v1, v19.2))))))
mutual
def zbF (fuel : Nat) (o1 : zb9) (x2 : Form) : Option (Form × zb9) :=
 match fuel with
 | 0 => none
 | fuel + 1 =>
 (zcn fuel x2).bind fun v1 =>
 (bif (decide (x2.kind = 1)) then
 (zad fuel o1 ([([] : List Int), [1], [2], [1, 2], [1, 3], [1, 2, 3], [99]].length : Int)).bind fun v3 =>
 (idx [([] : List Int), [1], [2], [1, 2], [1, 3], [1, 2, 3], [99]] v3.1).bind fun v4 =>
 chk (decide ((([] : List Int).length + v4.length) * 8 ≤ 140737488355328)) <|
 zcc fuel v1 v4 0 v3.2.b v3.2.p v1.kids
 else
 zcb fuel v1 0 o1.b o1.p v1.kids)
def zcc (fuel : Nat) (v1 : Form) (v4 : (List Int)) (g6 : Int) (g7 : (List Int)) (g8 : Int) (g9 : (List Form)) : Option (Form × zb9) :=
 match fuel with
 | 0 => none
 | fuel + 1 =>
 (bif (decide (g6 < (g9.length : Int))) then
 (idx g9 g6).bind fun v13 =>
 (zbF fuel (zb9.mk g7 g8) v13).bind fun v14 =>
 (idx g9 g6).bind fun v15 =>
 zcc fuel v1 v4 (g6 + 1) v14.2.b v14.2.p (g9.set g6.toNat v14.1)
 else
 some ((Form.mk v1.kind v1.name v1.n (([] : List Int) ++ v4) g9), (zb9.mk g7 g8)))
def zcb (fuel : Nat) (v1 : Form) (g16 : Int) (g17 : (List Int)) (g18 : Int) (g19 : (List Form)) : Option (Form × zb9) :=
 match fuel with
 | 0 => none
 | fuel + 1 =>
 (bif (decide (g16 < (g19.length : Int))) then
 (idx g19 g16).bind fun v23 =>
 (zbF fuel (zb9.mk g17 g18) v23).bind fun v24 =>
 (idx g19 g16).bind fun v25 =>
 zcb fuel v1 (g16 + 1) v24.2.b v24.2.p (g19.set g16.toNat v24.1)
 else
 some ((Form.mk v1.kind v1.name v1.n v1.scopes g19), (zb9.mk g17 g18)))
end
def zfs (fuel : Nat) (x1 : (List Int)) : Option (Form × (List Form) × Form) :=
 (zed fuel x1).bind fun v1 =>
 (zfX fuel).bind fun v2 =>
 (zad fuel v1 (v2.length : Int)).bind fun v3 =>
 (idx v2 v3.1).bind fun v4 =>
 (idx v4 0).bind fun v5 =>
 (zec fuel v5).bind fun v6 =>
 (idx v2 v3.1).bind fun v7 =>
 (idx v7 1).bind fun v8 =>
 (zec fuel v8).bind fun v9 =>
 (zfv fuel (⟨#[101, 108, 115, 101]⟩ : ByteArray)).bind fun v10 =>
 (zad fuel v3.2 8).bind fun v11 =>
 (bif (decide (v11.1 = 0)) then
 (za8 fuel v11.2 v9).bind fun v13 =>
 (za8 fuel v13.2 v13.1).bind fun v14 =>
 some (v6, [v10], v14.1)
 else
 (bif (decide (v11.1 = 1)) then
 (za8 fuel v11.2 v6).bind fun v16 =>
 (za8 fuel v16.2 v16.1).bind fun v17 =>
 some (v17.1, [v10], v9)
 else
 (bif (decide (v11.1 = 2)) then
 (zbF fuel v11.2 v9).bind fun v19 =>
 some (v6, [v10], v19.1)
 else
 (bif (decide (v11.1 = 3)) then
 some (v6, ([] : List Form), v9)
 else
 (bif (decide (v11.1 = 4)) then
 (zad fuel v11.2 (v2.length : Int)).bind fun v22 =>
 (idx v2 v22.1).bind fun v23 =>
 (idx v23 1).bind fun v24 =>
 (zec fuel v24).bind fun v25 =>
 some (v6, [v10], v25)
 else
 some (v6, [v10], v9))))))
def zcA (fuel : Nat) (x1 : (List Int)) : Option (List Int) :=
 chk (decide ((([] : List Int).length + x1.length) * 8 ≤ 140737488355328)) <|
 some (([] : List Int) ++ x1)
mutual
def zaQ (fuel : Nat) (x1 : Form) : Option Form :=
 match fuel with
 | 0 => none
 | fuel + 1 =>
 (zcA fuel x1.scopes).bind fun v1 =>
 zbV fuel x1 v1 0 ([] : List Form)
def zbV (fuel : Nat) (x1 : Form) (v1 : (List Int)) (g2 : Int) (g3 : (List Form)) : Option Form :=
 match fuel with
 | 0 => none
 | fuel + 1 =>
 (bif (decide (g2 < (x1.kids.length : Int))) then
 (idx x1.kids g2).bind fun v7 =>
 (zaQ fuel v7).bind fun v8 =>
 chk (decide ((g3.length + [v8].length) * 80 ≤ 140737488355328)) <|
 zbV fuel x1 v1 (g2 + 1) (g3 ++ [v8])
 else
 some (Form.mk x1.kind x1.name x1.n v1 g3))
end
def zbS (fuel : Nat) (x1 : (List Int)) : Option ((List Bind) × Form × (List Form) × Form) :=
 (zfs fuel x1).bind fun v1 =>
 (zed fuel x1).bind fun v2 =>
 (zad fuel v2 4).bind fun v3 =>
 (bif (decide (v3.1 = 0)) then
 some ([(Bind.mk (⟨#[101, 108, 115, 101]⟩ : ByteArray) [1] 3)], v1.1, v1.2.1, v1.2.2)
 else
 some (([] : List Bind), v1.1, v1.2.1, v1.2.2))
mutual
def zbc (fuel : Nat) (x1 : (List Bind)) (g1 : Int) (g19 : Int) (g28 : Bool) : Option Bool :=
 match fuel with
 | 0 => none
 | fuel + 1 =>
 (bif g28 then
 some false
 else
 zba fuel x1 g1 (w64 (g19 + 1)))
def zba (fuel : Nat) (x1 : (List Bind)) (g1 : Int) (g19 : Int) : Option Bool :=
 match fuel with
 | 0 => none
 | fuel + 1 =>
 (bif (decide (g19 < g1)) then
 (idx x1 g19).bind fun v22 =>
 (idx x1 g1).bind fun v23 =>
 (bif (decide (v22.name = v23.name)) then
 (idx x1 g19).bind fun v25 =>
 (idx x1 g1).bind fun v26 =>
 (zeH fuel v25.scopes v26.scopes).bind fun v27 =>
 zbc fuel x1 g1 g19 v27
 else
 zbc fuel x1 g1 g19 false)
 else
 zbb fuel x1 (w64 (g1 + 1)))
def zaI (fuel : Nat) (x1 : (List Bind)) (g1 : Int) (g16 : Bool) : Option Bool :=
 match fuel with
 | 0 => none
 | fuel + 1 =>
 (bif g16 then
 some false
 else
 zba fuel x1 g1 0)
def zbd (fuel : Nat) (x1 : (List Bind)) (g1 : Int) (g4 : Bool) : Option Bool :=
 match fuel with
 | 0 => none
 | fuel + 1 =>
 (bif g4 then
 (idx x1 g1).bind fun v7 =>
 (zda fuel v7.name).bind fun v8 =>
 (bif (!v8) then
 zaI fuel x1 g1 true
 else
 (idx x1 g1).bind fun v10 =>
 (zds fuel v10.scopes).bind fun v11 =>
 (bif (!v11) then
 zaI fuel x1 g1 true
 else
 (idx x1 g1).bind fun v13 =>
 (bif (decide (v13.id < 1)) then
 zaI fuel x1 g1 true
 else
 (idx x1 g1).bind fun v15 =>
 zaI fuel x1 g1 (decide (999 < v15.id)))))
 else
 some (decide ((x1.length : Int) ≤ 60)))
def zbb (fuel : Nat) (x1 : (List Bind)) (g1 : Int) : Option Bool :=
 match fuel with
 | 0 => none
 | fuel + 1 =>
 (bif (decide (g1 < (x1.length : Int))) then
 zbd fuel x1 g1 (decide (g1 ≤ 60))
 else
 zbd fuel x1 g1 false)
end
def zdt (fuel : Nat) (x1 : (List Bind)) : Option Bool :=
 zbb fuel x1 0
def zcV (fuel : Nat) (x1 : (List Int)) (x2 : Int) (g1 : Int) : Option Bool :=
 match fuel with
 | 0 => none
 | fuel + 1 =>
 (bif (decide (g1 < (x1.length : Int))) then
 (idx x1 g1).bind fun v5 =>
 (bif (decide (v5 = x2)) then
 some true
 else
 zcV fuel x1 x2 (g1 + 1))
 else
 some false)
def zfl (fuel : Nat) (x1 : (List Int)) (x2 : Int) : Option Bool :=
 zcV fuel x1 x2 0
def zbh (fuel : Nat) (x1 : (List Int)) (x2 : (List Int)) (g1 : Int) : Option Bool :=
 match fuel with
 | 0 => none
 | fuel + 1 =>
 (bif (decide (g1 < (x1.length : Int))) then
 (idx x1 g1).bind fun v5 =>
 (zfl fuel x2 v5).bind fun v6 =>
 (bif (!v6) then
 some false
 else
 zbh fuel x1 x2 (g1 + 1))
 else
 some true)
def zce (fuel : Nat) (x1 : (List Int)) (x2 : (List Int)) : Option Bool :=
 zbh fuel x1 x2 0
mutual
def zbL (fuel : Nat) (x1 : (List Bind)) (x2 : Form) (g1 : (List Int)) (g2 : Int) (g10 : Bool) : Option (List Int) :=
 match fuel with
 | 0 => none
 | fuel + 1 =>
 (bif g10 then
 chk (decide ((g1.length + [g2].length) * 8 ≤ 140737488355328)) <|
 za4 fuel x1 x2 (g1 ++ [g2]) (g2 + 1)
 else
 za4 fuel x1 x2 g1 (g2 + 1))
def za4 (fuel : Nat) (x1 : (List Bind)) (x2 : Form) (g1 : (List Int)) (g2 : Int) : Option (List Int) :=
 match fuel with
 | 0 => none
 | fuel + 1 =>
 (bif (decide (g2 < (x1.length : Int))) then
 (idx x1 g2).bind fun v6 =>
 (bif (decide (v6.name = x2.name)) then
 (idx x1 g2).bind fun v8 =>
 (zce fuel v8.scopes x2.scopes).bind fun v9 =>
 zbL fuel x1 x2 g1 g2 v9
 else
 zbL fuel x1 x2 g1 g2 false)
 else
 some g1)
end
def zdR (fuel : Nat) (x1 : (List Bind)) (x2 : Form) : Option (List Int) :=
 za4 fuel x1 x2 ([] : List Int) 0
mutual
def zcH (fuel : Nat) (x1 : (List Bind)) (v1 : (List Int)) (g2 : Int) (g7 : Int) (g16 : Bool) : Option (Int × Int) :=
 match fuel with
 | 0 => none
 | fuel + 1 =>
 zb1 fuel x1 v1 g2 g16 (g7 + 1)
def zb1 (fuel : Nat) (x1 : (List Bind)) (v1 : (List Int)) (g2 : Int) (g6 : Bool) (g7 : Int) : Option (Int × Int) :=
 match fuel with
 | 0 => none
 | fuel + 1 =>
 (bif (decide (g7 < (v1.length : Int))) then
 (bif g6 then
 (idx v1 g7).bind fun v11 =>
 (idx x1 v11).bind fun v12 =>
 (idx v1 g2).bind fun v13 =>
 (idx x1 v13).bind fun v14 =>
 (zce fuel v12.scopes v14.scopes).bind fun v15 =>
 zcH fuel x1 v1 g2 g7 v15
 else
 zcH fuel x1 v1 g2 g7 false)
 else
 zc7 fuel x1 v1 g2 g6)
def zc7 (fuel : Nat) (x1 : (List Bind)) (v1 : (List Int)) (g2 : Int) (g18 : Bool) : Option (Int × Int) :=
 match fuel with
 | 0 => none
 | fuel + 1 =>
 (bif g18 then
 (idx v1 g2).bind fun v21 =>
 some (v21, 1)
 else
 zb2 fuel x1 v1 (g2 + 1))
def zb2 (fuel : Nat) (x1 : (List Bind)) (v1 : (List Int)) (g2 : Int) : Option (Int × Int) :=
 match fuel with
 | 0 => none
 | fuel + 1 =>
 (bif (decide (g2 < (v1.length : Int))) then
 zb1 fuel x1 v1 g2 true 0
 else
 (bif (decide (0 < (v1.length : Int))) then
 some (0, 2)
 else
 some (0, 0)))
end
def zeF (fuel : Nat) (x1 : (List Bind)) (x2 : Form) : Option (Int × Int) :=
 (zdR fuel x1 x2).bind fun v1 =>
 zb2 fuel x1 v1 0
def zcG (fuel : Nat) (x1 : (List Bind)) (x2 : Form) (x3 : Form) (v1 : Int × Int) (v2 : Int × Int) (g4 : Bool) : Option Bool :=
 match fuel with
 | 0 => none
 | fuel + 1 =>
 (bif g4 then
 some false
 else
 (bif (decide (v1.2 = 0)) then
 some (decide (x2.name = x3.name))
 else
 (idx x1 v1.1).bind fun v8 =>
 (idx x1 v2.1).bind fun v9 =>
 some (decide (v8.id = v9.id))))
def zft (fuel : Nat) (x1 : (List Bind)) (x2 : Form) (x3 : Form) : Option Bool :=
 (zeF fuel x1 x2).bind fun v1 =>
 (zeF fuel x1 x3).bind fun v2 =>
 (bif (decide (v1.2 ≠ v2.2)) then
 zcG fuel x1 x2 x3 v1 v2 true
 else
 zcG fuel x1 x2 x3 v1 v2 (decide (v1.2 = 2)))
mutual
def zcp (fuel : Nat) (x3 : (List (List Hit))) (v1 : (List Form)) (v2 : (List Int)) (g3 : (List Hit)) (g4 : Int) (v8 : Form) (v9 : Int) (g10 : Int) (g11 : (List Hit)) : Option (List Hit) :=
 match fuel with
 | 0 => none
 | fuel + 1 =>
 (bif (decide (g10 < (x3.length : Int))) then
 (idx x3 g10).bind fun v15 =>
 (idx v15 g4).bind fun v16 =>
 chk (decide ((g11.length + [v16].length) * 192 ≤ 140737488355328)) <|
 zcp fuel x3 v1 v2 g3 g4 v8 v9 (g10 + 1) (g11 ++ [v16])
 else
 chk (decide ((g3.length + [(Hit.mk v8 (w64 (v9 + 1)) (Form.mk 0 (⟨#[]⟩ : ByteArray) 0 ([] : List Int) ([] : List Form)) g11)].length) * 192 ≤ 140737488355328)) <|
 zcq fuel x3 v1 v2 (g3 ++ [(Hit.mk v8 (w64 (v9 + 1)) (Form.mk 0 (⟨#[]⟩ : ByteArray) 0 ([] : List Int) ([] : List Form)) g11)]) (w64 (g4 + 1)))
def zcq (fuel : Nat) (x3 : (List (List Hit))) (v1 : (List Form)) (v2 : (List Int)) (g3 : (List Hit)) (g4 : Int) : Option (List Hit) :=
 match fuel with
 | 0 => none
 | fuel + 1 =>
 (bif (decide (g4 < (v1.length : Int))) then
 (idx v1 g4).bind fun v8 =>
 (idx v2 g4).bind fun v9 =>
 zcp fuel x3 v1 v2 g3 g4 v8 v9 0 ([] : List Hit)
 else
 some g3)
end
def zf3 (fuel : Nat) (x1 : Form) (x2 : (List Form)) (x3 : (List (List Hit))) : Option (List Hit) :=
 (zcK fuel ([] : List Form) x1 x2).bind fun v1 =>
 (za7 fuel ([] : List Int) x1 x2 0).bind fun v2 =>
 zcq fuel x3 v1 v2 ([] : List Hit) 0
mutual
def zeE (fuel : Nat) (x1 : (List Bind)) (x2 : (List Form)) (x3 : (List Form)) (x4 : (List Form)) : Option ((List Hit) × Bool) :=
 match fuel with
 | 0 => none
 | fuel + 1 =>
 za6 fuel x1 x2 x3 x4 (-1) 0
def za6 (fuel : Nat) (x1 : (List Bind)) (x2 : (List Form)) (x3 : (List Form)) (x4 : (List Form)) (g1 : Int) (g2 : Int) : Option ((List Hit) × Bool) :=
 match fuel with
 | 0 => none
 | fuel + 1 =>
 (bif (decide ((w64 (g2 + 1)) < (x2.length : Int))) then
 (idx x2 (w64 (g2 + 1))).bind fun v5 =>
 (zcm fuel v5).bind fun v6 =>
 (bif v6 then
 za6 fuel x1 x2 x3 x4 g2 (w64 (g2 + 1))
 else
 za6 fuel x1 x2 x3 x4 g1 (w64 (g2 + 1)))
 else
 zc6 fuel x1 x2 x3 x4 g1)
def zb0 (fuel : Nat) (x1 : (List Bind)) (x2 : (List Form)) (x3 : (List Form)) (x4 : (List Form)) (g8 : Int) (g17 : Int) (g18 : (List Hit)) (g32 : Int) (g33 : (List (List Hit))) (g34 : Int) : Option ((List Hit) × Bool) :=
 match fuel with
 | 0 => none
 | fuel + 1 =>
 (bif (decide (0 < g34)) then
 (idx x2 g17).bind fun v37 =>
 (idx x4 g32).bind fun v38 =>
 (zcl fuel x1 v37 x3 v38).bind fun v39 =>
 (bif (!v39.2) then
 some (g18, false)
 else
 chk (decide ((g33.length + [v39.1].length) * 24 ≤ 140737488355328)) <|
 zb0 fuel x1 x2 x3 x4 g8 g17 g18 (w64 (g32 + 1)) (g33 ++ [v39.1]) (w64 (g34 - 1)))
 else
 zc5 fuel x1 x2 x3 x4 g8 g17 g18 g32 g33)
def zc5 (fuel : Nat) (x1 : (List Bind)) (x2 : (List Form)) (x3 : (List Form)) (x4 : (List Form)) (g8 : Int) (g17 : Int) (g18 : (List Hit)) (g42 : Int) (g43 : (List (List Hit))) : Option ((List Hit) × Bool) :=
 match fuel with
 | 0 => none
 | fuel + 1 =>
 (idx x2 g17).bind fun v45 =>
 (zf3 fuel v45 x3 g43).bind fun v46 =>
 chk (decide ((g18.length + v46.length) * 192 ≤ 140737488355328)) <|
 zbr fuel x1 x2 x3 x4 g8 (g17 + 1) (g18 ++ v46) g42
def zbr (fuel : Nat) (x1 : (List Bind)) (x2 : (List Form)) (x3 : (List Form)) (x4 : (List Form)) (g8 : Int) (g17 : Int) (g18 : (List Hit)) (g19 : Int) : Option ((List Hit) × Bool) :=
 match fuel with
 | 0 => none
 | fuel + 1 =>
 (bif (decide (g17 < (x2.length : Int))) then
 (idx x2 g17).bind fun v23 =>
 (zcm fuel v23).bind fun v24 =>
 (bif v24 then
 zbr fuel x1 x2 x3 x4 g8 (g17 + 1) g18 g19
 else
 (bif (decide (g17 ≠ g8)) then
 (idx x2 g17).bind fun v27 =>
 (idx x4 g19).bind fun v28 =>
 (zcl fuel x1 v27 x3 v28).bind fun v29 =>
 (bif (!v29.2) then
 some (g18, false)
 else
 chk (decide ((g18.length + v29.1.length) * 192 ≤ 140737488355328)) <|
 zbr fuel x1 x2 x3 x4 g8 (g17 + 1) (g18 ++ v29.1) (w64 (g19 + 1)))
 else
 zb0 fuel x1 x2 x3 x4 g8 g17 g18 g19 ([] : List (List Hit)) (w64 ((x4.length : Int) - (w64 ((x2.length : Int) - 2))))))
 else
 some (g18, true))
def zbI (fuel : Nat) (x1 : (List Bind)) (x2 : (List Form)) (x3 : (List Form)) (x4 : (List Form)) (g8 : Int) : Option ((List Hit) × Bool) :=
 match fuel with
 | 0 => none
 | fuel + 1 =>
 zbr fuel x1 x2 x3 x4 g8 0 ([] : List Hit) 0
def zc6 (fuel : Nat) (x1 : (List Bind)) (x2 : (List Form)) (x3 : (List Form)) (x4 : (List Form)) (g8 : Int) : Option ((List Hit) × Bool) :=
 match fuel with
 | 0 => none
 | fuel + 1 =>
 (bif (decide (g8 < 0)) then
 (bif (decide ((x2.length : Int) ≠ (x4.length : Int))) then
 some (([] : List Hit), false)
 else
 (bif (decide (0 ≤ g8)) then
 (bif (decide ((x4.length : Int) < (w64 ((x2.length : Int) - 2)))) then
 some (([] : List Hit), false)
 else
 zbI fuel x1 x2 x3 x4 g8 )
 else
 zbI fuel x1 x2 x3 x4 g8 ))
 else
 (bif (decide (0 ≤ g8)) then
 (bif (decide ((x4.length : Int) < (w64 ((x2.length : Int) - 2)))) then
 some (([] : List Hit), false)
 else
 zbI fuel x1 x2 x3 x4 g8 )
 else
 zbI fuel x1 x2 x3 x4 g8 ))
def zcl (fuel : Nat) (x1 : (List Bind)) (x2 : Form) (x3 : (List Form)) (x4 : Form) : Option ((List Hit) × Bool) :=
 match fuel with
 | 0 => none
 | fuel + 1 =>
 (bif (decide (x2.kind = 1)) then
 (bif (decide (x2.name = (⟨#[95]⟩ : ByteArray))) then
 some (([] : List Hit), true)
 else
 (zep fuel x3 x2).bind fun v3 =>
 (bif v3 then
 (bif (decide (x4.kind = 1)) then
 (zft fuel x1 x2 x4).bind fun v6 =>
 zca fuel  v6
 else
 zca fuel  false)
 else
 chk (decide ((([] : List Hit).length + [(Hit.mk x2 0 x4 ([] : List Hit))].length) * 192 ≤ 140737488355328)) <|
 some ((([] : List Hit) ++ [(Hit.mk x2 0 x4 ([] : List Hit))]), true)))
 else
 (bif (decide (x2.kind = 2)) then
 (zbG fuel x2 x4).bind fun v11 =>
 some (([] : List Hit), v11)
 else
 (bif (decide (x4.kind ≠ 3)) then
 some (([] : List Hit), false)
 else
 (zeE fuel x1 x2.kids x3 x4.kids).bind fun v13 =>
 some (v13.1, v13.2))))
def zca (fuel : Nat) (g7 : Bool) : Option ((List Hit) × Bool) :=
 match fuel with
 | 0 => none
 | fuel + 1 =>
 some (([] : List Hit), g7)
end
mutual
def zbJ (fuel : Nat) (x1 : Hit) : Option Hit :=
 match fuel with
 | 0 => none
 | fuel + 1 =>
 (zcn fuel x1.name).bind fun v1 =>
 (zcn fuel x1.one).bind fun v2 =>
 zbK fuel x1 v1 v2 0 ([] : List Hit)
def zbK (fuel : Nat) (x1 : Hit) (v1 : Form) (v2 : Form) (g3 : Int) (g4 : (List Hit)) : Option Hit :=
 match fuel with
 | 0 => none
 | fuel + 1 =>
 (bif (decide (g3 < (x1.many.length : Int))) then
 (idx x1.many g3).bind fun v8 =>
 (zbJ fuel v8).bind fun v9 =>
 chk (decide ((g4.length + [v9].length) * 192 ≤ 140737488355328)) <|
 zbK fuel x1 v1 v2 (g3 + 1) (g4 ++ [v9])
 else
 some (Hit.mk v1 x1.depth v2 g4))
end
def zcF (fuel : Nat) (x1 : (List Hit)) (g1 : (List Hit)) (g2 : Int) : Option (List Hit) :=
 match fuel with
 | 0 => none
 | fuel + 1 =>
 (bif (decide (g2 < (x1.length : Int))) then
 (idx x1 g2).bind fun v6 =>
 (zbJ fuel v6).bind fun v7 =>
 chk (decide ((g1.length + [v7].length) * 192 ≤ 140737488355328)) <|
 zcF fuel x1 (g1 ++ [v7]) (g2 + 1)
 else
 some g1)
def zfr (fuel : Nat) (x1 : (List Hit)) : Option (List Hit) :=
 zcF fuel x1 ([] : List Hit) 0
def zaD (fuel : Nat) (x1 : (List Bind)) (x2 : Form) (x3 : (List Form)) (x4 : Form) (g6 : Bool) : Option ((List Hit) × Bool) :=
 match fuel with
 | 0 => none
 | fuel + 1 =>
 (bif g6 then
 some (([] : List Hit), false)
 else
 (zcl fuel x1 x2 x3 x4).bind fun v9 =>
 (bif (!v9.2) then
 some (([] : List Hit), false)
 else
 (zfr fuel v9.1).bind fun v11 =>
 some (v11, true)))
def zcX (fuel : Nat) (x1 : (List Bind)) (x2 : Form) (x3 : (List Form)) (x4 : Form) : Option ((List Hit) × Bool) :=
 (zdt fuel x1).bind fun v1 =>
 (bif (!v1) then
 zaD fuel x1 x2 x3 x4 true
 else
 (zgr fuel x2 x3).bind fun v3 =>
 (bif (!v3) then
 zaD fuel x1 x2 x3 x4 true
 else
 (zb4 fuel x4).bind fun v5 =>
 zaD fuel x1 x2 x3 x4 (!v5)))
mutual
def zcS (fuel : Nat) (x1 : Hit) (x2 : Hit) : Option Bool :=
 match fuel with
 | 0 => none
 | fuel + 1 =>
 (zaC fuel x1.name x2.name).bind fun v1 =>
 (bif v1 then
 (bif (decide (x1.depth = x2.depth)) then
 (zaC fuel x1.one x2.one).bind fun v4 =>
 (bif v4 then
 (zaj fuel x1.many x2.many).bind fun v6 =>
 some v6
 else
 some false)
 else
 some false)
 else
 some false)
def zaj (fuel : Nat) (x1 : (List Hit)) (x2 : (List Hit)) : Option Bool :=
 match fuel with
 | 0 => none
 | fuel + 1 =>
 (bif (decide ((x1.length : Int) ≠ (x2.length : Int))) then
 some false
 else
 zac fuel x1 x2 0)
def zac (fuel : Nat) (x1 : (List Hit)) (x2 : (List Hit)) (g2 : Int) : Option Bool :=
 match fuel with
 | 0 => none
 | fuel + 1 =>
 (bif (decide (g2 < (x1.length : Int))) then
 (idx x1 g2).bind fun v6 =>
 (idx x2 g2).bind fun v7 =>
 (zcS fuel v6 v7).bind fun v8 =>
 (bif (!v8) then
 some false
 else
 zac fuel x1 x2 (g2 + 1))
 else
 some true)
end
def zdz (fuel : Nat) (x1 : (List Hit)) (x2 : (List Hit)) : Option Bool :=
 (zaj fuel x1 x2).bind fun v1 =>
 some v1
mutual
def zcu (fuel : Nat) (x1 : Hit) (x2 : (List Form)) : Option (List Form) :=
 match fuel with
 | 0 => none
 | fuel + 1 =>
 (bif (decide (x1.depth = 0)) then
 (zaQ fuel x1.one).bind fun v2 =>
 chk (decide ((x2.length + [v2].length) * 80 ≤ 140737488355328)) <|
 some (x2 ++ [v2])
 else
 zan fuel x1 x2 0)
def zan (fuel : Nat) (x1 : Hit) (g4 : (List Form)) (g5 : Int) : Option (List Form) :=
 match fuel with
 | 0 => none
 | fuel + 1 =>
 (bif (decide (g5 < (x1.many.length : Int))) then
 (idx x1.many g5).bind fun v9 =>
 (zcu fuel v9 g4).bind fun v10 =>
 zan fuel x1 v10 (g5 + 1)
 else
 some g4)
end
def zeN (fuel : Nat) (x1 : Hit) : Option (List Form) :=
 (bif (decide (x1.depth = 0)) then
 (zaQ fuel x1.one).bind fun v2 =>
 chk (decide ([v2].length * 80 ≤ 140737488355328)) <|
 some [v2]
 else
 zan fuel x1 ([] : List Form) 0)
def zdA (fuel : Nat) (x1 : Hit) : Option (List Form) :=
 (zdG fuel x1).bind fun v1 =>
 (bif (!v1) then
 some ([] : List Form)
 else
 (zeN fuel x1).bind fun v3 =>
 some v3)
def zc2 (fuel : Nat) (x1 : Bind) (o1 : Bind) : Option Bool :=
 (bif (decide (x1.name = o1.name)) then
 (zcz fuel x1.scopes o1.scopes).bind fun v2 =>
 some v2
 else
 some false)
def zK (fuel : Nat) (x1 : (List Bind)) (o1 : Bind) (g1 : Int) : Option Int :=
 match fuel with
 | 0 => none
 | fuel + 1 =>
 (bif (decide (g1 < (x1.length : Int))) then
 (idx x1 g1).bind fun v5 =>
 (zc2 fuel v5 o1).bind fun v6 =>
 (bif v6 then
 some g1
 else
 zK fuel x1 o1 (g1 + 1))
 else
 some (-1))
def zaZ (fuel : Nat) (x1 : (List Bind)) (o1 : Bind) : Option Int :=
 zK fuel x1 o1 0
def zaP (fuel : Nat) (x1 : (List Bind)) (o1 : Bind) : Option Bool :=
 (zaZ fuel x1 o1).bind fun v1 =>
 some (decide (0 ≤ v1))
mutual
def zaY (fuel : Nat) (x1 : (List Bind)) (g1 : Int) (v5 : Bind) (g11 : Bool) : Option Bool :=
 match fuel with
 | 0 => none
 | fuel + 1 =>
 (bif g11 then
 some false
 else
 (sub x1 0 g1).bind fun v14 =>
 (zaP fuel v14 v5).bind fun v15 =>
 (bif v15 then
 some false
 else
 zbf fuel x1 (g1 + 1)))
def zbf (fuel : Nat) (x1 : (List Bind)) (g1 : Int) : Option Bool :=
 match fuel with
 | 0 => none
 | fuel + 1 =>
 (bif (decide (g1 < (x1.length : Int))) then
 (idx x1 g1).bind fun v5 =>
 (zdc fuel v5.name).bind fun v6 =>
 (bif (!v6) then
 zaY fuel x1 g1 v5 true
 else
 (zdu fuel v5.scopes).bind fun v8 =>
 (bif (!v8) then
 zaY fuel x1 g1 v5 true
 else
 (zco fuel v5.id 1 999).bind fun v10 =>
 zaY fuel x1 g1 v5 (!v10)))
 else
 some (decide ((x1.length : Int) ≤ 60)))
end
def zcj (fuel : Nat) (x1 : (List Bind)) : Option Bool :=
 zbf fuel x1 0
def zbp (fuel : Nat) (x1 : (List Int)) (x2 : Int) (g1 : Int) : Option Int :=
 match fuel with
 | 0 => none
 | fuel + 1 =>
 (bif (decide (g1 < (x1.length : Int))) then
 (idx x1 g1).bind fun v5 =>
 (bif (decide (x2 = v5)) then
 some g1
 else
 zbp fuel x1 x2 (g1 + 1))
 else
 some (-1))
def zei (fuel : Nat) (x1 : (List Int)) (x2 : Int) : Option Int :=
 zbp fuel x1 x2 0
def zcr (fuel : Nat) (x1 : (List Int)) (x2 : Int) : Option Bool :=
 (zei fuel x1 x2).bind fun v1 =>
 some (decide (0 ≤ v1))
def zcw (fuel : Nat) (x1 : Int) (o1 : (List Int)) : Option Bool :=
 (zcr fuel o1 x1).bind fun v1 =>
 some (!v1)
def zH (fuel : Nat) (x1 : (List Int)) (o1 : (List Int)) (g1 : Int) : Option Int :=
 match fuel with
 | 0 => none
 | fuel + 1 =>
 (bif (decide (g1 < (x1.length : Int))) then
 (idx x1 g1).bind fun v5 =>
 (zcw fuel v5 o1).bind fun v6 =>
 (bif v6 then
 some g1
 else
 zH fuel x1 o1 (g1 + 1))
 else
 some (-1))
def zaX (fuel : Nat) (x1 : (List Int)) (o1 : (List Int)) : Option Int :=
 zH fuel x1 o1 0
def zaK (fuel : Nat) (x1 : (List Int)) (o1 : (List Int)) : Option Bool :=
 (zaX fuel x1 o1).bind fun v1 =>
 some (decide (0 ≤ v1))
def zcg (fuel : Nat) (x1 : (List Int)) (x2 : (List Int)) : Option Bool :=
 (zaK fuel x1 x2).bind fun v1 =>
 some (!v1)
mutual
def zcf (fuel : Nat) (x1 : (List Bind)) (x2 : Form) (g1 : (List Int)) (g2 : Int) (g9 : Bool) : Option (List Int) :=
 match fuel with
 | 0 => none
 | fuel + 1 =>
 (bif g9 then
 chk (decide ((g1.length + [g2].length) * 8 ≤ 140737488355328)) <|
 zbw fuel x1 x2 (g1 ++ [g2]) (g2 + 1)
 else
 zbw fuel x1 x2 g1 (g2 + 1))
def zbw (fuel : Nat) (x1 : (List Bind)) (x2 : Form) (g1 : (List Int)) (g2 : Int) : Option (List Int) :=
 match fuel with
 | 0 => none
 | fuel + 1 =>
 (bif (decide (g2 < (x1.length : Int))) then
 (idx x1 g2).bind fun v6 =>
 (bif (decide (v6.name = x2.name)) then
 (zcg fuel v6.scopes x2.scopes).bind fun v8 =>
 zcf fuel x1 x2 g1 g2 v8
 else
 zcf fuel x1 x2 g1 g2 false)
 else
 some g1)
end
def zeY (fuel : Nat) (x1 : (List Bind)) (x2 : Form) : Option (List Int) :=
 zbw fuel x1 x2 ([] : List Int) 0
def zeZ (fuel : Nat) (x1 : Int) (o1 : (List Bind)) (o2 : Int) : Option Bool :=
 (idx o1 x1).bind fun v1 =>
 (idx o1 o2).bind fun v2 =>
 (zcg fuel v1.scopes v2.scopes).bind fun v3 =>
 some (!v3)
def z8 (fuel : Nat) (x1 : (List Int)) (o1 : (List Bind)) (o2 : Int) (g1 : Int) : Option Int :=
 match fuel with
 | 0 => none
 | fuel + 1 =>
 (bif (decide (g1 < (x1.length : Int))) then
 (idx x1 g1).bind fun v5 =>
 (zeZ fuel v5 o1 o2).bind fun v6 =>
 (bif v6 then
 some g1
 else
 z8 fuel x1 o1 o2 (g1 + 1))
 else
 some (-1))
def zbA (fuel : Nat) (x1 : (List Int)) (o1 : (List Bind)) (o2 : Int) : Option Int :=
 z8 fuel x1 o1 o2 0
def zbj (fuel : Nat) (x1 : (List Int)) (o1 : (List Bind)) (o2 : Int) : Option Bool :=
 (zbA fuel x1 o1 o2).bind fun v1 =>
 some (decide (0 ≤ v1))
def zcv (fuel : Nat) (x1 : (List Bind)) (v1 : (List Int)) (g3 : Int) : Option (Int × Int) :=
 match fuel with
 | 0 => none
 | fuel + 1 =>
 (bif (decide (g3 < (v1.length : Int))) then
 (idx v1 g3).bind fun v7 =>
 (zbj fuel v1 x1 v7).bind fun v8 =>
 (bif (!v8) then
 some (v7, 1)
 else
 zcv fuel x1 v1 (g3 + 1))
 else
 some (0, 2))
def zf7 (fuel : Nat) (x1 : (List Bind)) (x2 : Form) : Option (Int × Int) :=
 (zeY fuel x1 x2).bind fun v1 =>
 (bif (decide ((v1.length : Int) = 0)) then
 some (0, 0)
 else
 zcv fuel x1 v1 0)
def zcC (fuel : Nat) (x1 : (List Bind)) (x2 : Form) (g4 : Bool) : Option (Int × Int) :=
 match fuel with
 | 0 => none
 | fuel + 1 =>
 (bif g4 then
 some (0, 0)
 else
 (zf7 fuel x1 x2).bind fun v7 =>
 (bif (decide (v7.2 ≠ 1)) then
 some (0, v7.2)
 else
 (idx x1 v7.1).bind fun v9 =>
 some (v9.id, 1)))
def zdB (fuel : Nat) (x1 : (List Bind)) (x2 : Form) : Option (Int × Int) :=
 (zcj fuel x1).bind fun v1 =>
 (bif (!v1) then
 zcC fuel x1 x2 true
 else
 (zcL fuel x2).bind fun v3 =>
 zcC fuel x1 x2 (!v3))
def zav (fuel : Nat) (x1 : (List Bind)) (x2 : Form) (x3 : Form) (g6 : Bool) : Option Bool :=
 match fuel with
 | 0 => none
 | fuel + 1 =>
 (bif g6 then
 some false
 else
 (zdB fuel x1 x2).bind fun v9 =>
 (zdB fuel x1 x3).bind fun v10 =>
 (bif (decide (v9.2 = 1)) then
 (bif (decide (v10.2 = 1)) then
 (bif (decide (v9.1 = v10.1)) then
 some true
 else
 (bif (decide (v9.2 = 0)) then
 (bif (decide (v10.2 = 0)) then
 some (decide (x2.name = x3.name))
 else
 some false)
 else
 some false))
 else
 (bif (decide (v9.2 = 0)) then
 (bif (decide (v10.2 = 0)) then
 some (decide (x2.name = x3.name))
 else
 some false)
 else
 some false))
 else
 (bif (decide (v9.2 = 0)) then
 (bif (decide (v10.2 = 0)) then
 some (decide (x2.name = x3.name))
 else
 some false)
 else
 some false)))
def zcJ (fuel : Nat) (x1 : (List Bind)) (x2 : Form) (x3 : Form) : Option Bool :=
 (zcj fuel x1).bind fun v1 =>
 (bif (!v1) then
 zav fuel x1 x2 x3 true
 else
 (zcL fuel x2).bind fun v3 =>
 (bif (!v3) then
 zav fuel x1 x2 x3 true
 else
 (zcL fuel x3).bind fun v5 =>
 zav fuel x1 x2 x3 (!v5)))
end Go.Abs
