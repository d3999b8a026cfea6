/- A part of the proof: what the functions that the law calls answer, as pure values. -/
import Derived.Test.YtbkdbbfgdjcfgaaK00b9e8259e4a
import Derived.Test.YtbkdbbfgdjcfgaaK69e8a0ebd724
import Derived.Test.YtbkdbbfgdjcfgaaKe8177d545ea5
set_option linter.unusedSimpArgs false
set_option linter.unusedVariables false
set_option maxHeartbeats 4000000
namespace Go.Abs
mutual
def m_laws_markHitS (fuel : Nat) (x1 : (List Hit)) (x2 : Int) : Option (Int × (List Hit)) :=
 match fuel with
 | 0 => none
 | fuel + 1 =>
 m_laws_markHitS_l1 fuel  x2 0 x1
def m_laws_markHitS_l1 (fuel : Nat) (g1 : Int) (g2 : Int) (g3 : (List Hit)) : Option (Int × (List Hit)) :=
 match fuel with
 | 0 => none
 | fuel + 1 =>
 (bif (decide (g2 < (g3.length : Int))) then
 (idx g3 g2).bind fun v6 =>
 (m_laws_markText fuel (w64 (g1 + 1))).bind fun v7 =>
 (idx (g3.set g2.toNat (Hit.mk (Form.mk g1 v6.name.name v6.name.n v6.name.scopes v6.name.kids) v6.depth v6.one v6.many)) g2).bind fun v8 =>
 (idx ((g3.set g2.toNat (Hit.mk (Form.mk g1 v6.name.name v6.name.n v6.name.scopes v6.name.kids) v6.depth v6.one v6.many)).set g2.toNat (Hit.mk (Form.mk v8.name.kind v7 v8.name.n v8.name.scopes v8.name.kids) v8.depth v8.one v8.many)) g2).bind fun v9 =>
 (idx (((g3.set g2.toNat (Hit.mk (Form.mk g1 v6.name.name v6.name.n v6.name.scopes v6.name.kids) v6.depth v6.one v6.many)).set g2.toNat (Hit.mk (Form.mk v8.name.kind v7 v8.name.n v8.name.scopes v8.name.kids) v8.depth v8.one v8.many)).set g2.toNat (Hit.mk (Form.mk v9.name.kind v9.name.name (w64 ((w64 (g1 + 1)) + 1)) v9.name.scopes v9.name.kids) v9.depth v9.one v9.many)) g2).bind fun v10 =>
 (m_laws_markIntS fuel v10.name.scopes (w64 ((w64 ((w64 (g1 + 1)) + 1)) + 1))).bind fun v11 =>
 (idx ((((g3.set g2.toNat (Hit.mk (Form.mk g1 v6.name.name v6.name.n v6.name.scopes v6.name.kids) v6.depth v6.one v6.many)).set g2.toNat (Hit.mk (Form.mk v8.name.kind v7 v8.name.n v8.name.scopes v8.name.kids) v8.depth v8.one v8.many)).set g2.toNat (Hit.mk (Form.mk v9.name.kind v9.name.name (w64 ((w64 (g1 + 1)) + 1)) v9.name.scopes v9.name.kids) v9.depth v9.one v9.many)).set g2.toNat (Hit.mk (Form.mk v10.name.kind v10.name.name v10.name.n v11.2 v10.name.kids) v10.depth v10.one v10.many)) g2).bind fun v12 =>
 (m_laws_markFormS fuel v12.name.kids v11.1).bind fun v13 =>
 (idx (((((g3.set g2.toNat (Hit.mk (Form.mk g1 v6.name.name v6.name.n v6.name.scopes v6.name.kids) v6.depth v6.one v6.many)).set g2.toNat (Hit.mk (Form.mk v8.name.kind v7 v8.name.n v8.name.scopes v8.name.kids) v8.depth v8.one v8.many)).set g2.toNat (Hit.mk (Form.mk v9.name.kind v9.name.name (w64 ((w64 (g1 + 1)) + 1)) v9.name.scopes v9.name.kids) v9.depth v9.one v9.many)).set g2.toNat (Hit.mk (Form.mk v10.name.kind v10.name.name v10.name.n v11.2 v10.name.kids) v10.depth v10.one v10.many)).set g2.toNat (Hit.mk (Form.mk v12.name.kind v12.name.name v12.name.n v12.name.scopes v13.2) v12.depth v12.one v12.many)) g2).bind fun v14 =>
 (idx ((((((g3.set g2.toNat (Hit.mk (Form.mk g1 v6.name.name v6.name.n v6.name.scopes v6.name.kids) v6.depth v6.one v6.many)).set g2.toNat (Hit.mk (Form.mk v8.name.kind v7 v8.name.n v8.name.scopes v8.name.kids) v8.depth v8.one v8.many)).set g2.toNat (Hit.mk (Form.mk v9.name.kind v9.name.name (w64 ((w64 (g1 + 1)) + 1)) v9.name.scopes v9.name.kids) v9.depth v9.one v9.many)).set g2.toNat (Hit.mk (Form.mk v10.name.kind v10.name.name v10.name.n v11.2 v10.name.kids) v10.depth v10.one v10.many)).set g2.toNat (Hit.mk (Form.mk v12.name.kind v12.name.name v12.name.n v12.name.scopes v13.2) v12.depth v12.one v12.many)).set g2.toNat (Hit.mk v14.name v13.1 v14.one v14.many)) g2).bind fun v15 =>
 (m_laws_markText fuel (w64 ((w64 (v13.1 + 1)) + 1))).bind fun v16 =>
 (idx (((((((g3.set g2.toNat (Hit.mk (Form.mk g1 v6.name.name v6.name.n v6.name.scopes v6.name.kids) v6.depth v6.one v6.many)).set g2.toNat (Hit.mk (Form.mk v8.name.kind v7 v8.name.n v8.name.scopes v8.name.kids) v8.depth v8.one v8.many)).set g2.toNat (Hit.mk (Form.mk v9.name.kind v9.name.name (w64 ((w64 (g1 + 1)) + 1)) v9.name.scopes v9.name.kids) v9.depth v9.one v9.many)).set g2.toNat (Hit.mk (Form.mk v10.name.kind v10.name.name v10.name.n v11.2 v10.name.kids) v10.depth v10.one v10.many)).set g2.toNat (Hit.mk (Form.mk v12.name.kind v12.name.name v12.name.n v12.name.scopes v13.2) v12.depth v12.one v12.many)).set g2.toNat (Hit.mk v14.name v13.1 v14.one v14.many)).set g2.toNat (Hit.mk v15.name v15.depth (Form.mk (w64 (v13.1 + 1)) v15.one.name v15.one.n v15.one.scopes v15.one.kids) v15.many)) g2).bind fun v17 =>
 (idx ((((((((g3.set g2.toNat (Hit.mk (Form.mk g1 v6.name.name v6.name.n v6.name.scopes v6.name.kids) v6.depth v6.one v6.many)).set g2.toNat (Hit.mk (Form.mk v8.name.kind v7 v8.name.n v8.name.scopes v8.name.kids) v8.depth v8.one v8.many)).set g2.toNat (Hit.mk (Form.mk v9.name.kind v9.name.name (w64 ((w64 (g1 + 1)) + 1)) v9.name.scopes v9.name.kids) v9.depth v9.one v9.many)).set g2.toNat (Hit.mk (Form.mk v10.name.kind v10.name.name v10.name.n v11.2 v10.name.kids) v10.depth v10.one v10.many)).set g2.toNat (Hit.mk (Form.mk v12.name.kind v12.name.name v12.name.n v12.name.scopes v13.2) v12.depth v12.one v12.many)).set g2.toNat (Hit.mk v14.name v13.1 v14.one v14.many)).set g2.toNat (Hit.mk v15.name v15.depth (Form.mk (w64 (v13.1 + 1)) v15.one.name v15.one.n v15.one.scopes v15.one.kids) v15.many)).set g2.toNat (Hit.mk v17.name v17.depth (Form.mk v17.one.kind v16 v17.one.n v17.one.scopes v17.one.kids) v17.many)) g2).bind fun v18 =>
 (idx (((((((((g3.set g2.toNat (Hit.mk (Form.mk g1 v6.name.name v6.name.n v6.name.scopes v6.name.kids) v6.depth v6.one v6.many)).set g2.toNat (Hit.mk (Form.mk v8.name.kind v7 v8.name.n v8.name.scopes v8.name.kids) v8.depth v8.one v8.many)).set g2.toNat (Hit.mk (Form.mk v9.name.kind v9.name.name (w64 ((w64 (g1 + 1)) + 1)) v9.name.scopes v9.name.kids) v9.depth v9.one v9.many)).set g2.toNat (Hit.mk (Form.mk v10.name.kind v10.name.name v10.name.n v11.2 v10.name.kids) v10.depth v10.one v10.many)).set g2.toNat (Hit.mk (Form.mk v12.name.kind v12.name.name v12.name.n v12.name.scopes v13.2) v12.depth v12.one v12.many)).set g2.toNat (Hit.mk v14.name v13.1 v14.one v14.many)).set g2.toNat (Hit.mk v15.name v15.depth (Form.mk (w64 (v13.1 + 1)) v15.one.name v15.one.n v15.one.scopes v15.one.kids) v15.many)).set g2.toNat (Hit.mk v17.name v17.depth (Form.mk v17.one.kind v16 v17.one.n v17.one.scopes v17.one.kids) v17.many)).set g2.toNat (Hit.mk v18.name v18.depth (Form.mk v18.one.kind v18.one.name (w64 ((w64 ((w64 (v13.1 + 1)) + 1)) + 1)) v18.one.scopes v18.one.kids) v18.many)) g2).bind fun v19 =>
 (m_laws_markIntS fuel v19.one.scopes (w64 ((w64 ((w64 ((w64 (v13.1 + 1)) + 1)) + 1)) + 1))).bind fun v20 =>
 (idx ((((((((((g3.set g2.toNat (Hit.mk (Form.mk g1 v6.name.name v6.name.n v6.name.scopes v6.name.kids) v6.depth v6.one v6.many)).set g2.toNat (Hit.mk (Form.mk v8.name.kind v7 v8.name.n v8.name.scopes v8.name.kids) v8.depth v8.one v8.many)).set g2.toNat (Hit.mk (Form.mk v9.name.kind v9.name.name (w64 ((w64 (g1 + 1)) + 1)) v9.name.scopes v9.name.kids) v9.depth v9.one v9.many)).set g2.toNat (Hit.mk (Form.mk v10.name.kind v10.name.name v10.name.n v11.2 v10.name.kids) v10.depth v10.one v10.many)).set g2.toNat (Hit.mk (Form.mk v12.name.kind v12.name.name v12.name.n v12.name.scopes v13.2) v12.depth v12.one v12.many)).set g2.toNat (Hit.mk v14.name v13.1 v14.one v14.many)).set g2.toNat (Hit.mk v15.name v15.depth (Form.mk (w64 (v13.1 + 1)) v15.one.name v15.one.n v15.one.scopes v15.one.kids) v15.many)).set g2.toNat (Hit.mk v17.name v17.depth (Form.mk v17.one.kind v16 v17.one.n v17.one.scopes v17.one.kids) v17.many)).set g2.toNat (Hit.mk v18.name v18.depth (Form.mk v18.one.kind v18.one.name (w64 ((w64 ((w64 (v13.1 + 1)) + 1)) + 1)) v18.one.scopes v18.one.kids) v18.many)).set g2.toNat (Hit.mk v19.name v19.depth (Form.mk v19.one.kind v19.one.name v19.one.n v20.2 v19.one.kids) v19.many)) g2).bind fun v21 =>
 (m_laws_markFormS fuel v21.one.kids v20.1).bind fun v22 =>
 (idx (((((((((((g3.set g2.toNat (Hit.mk (Form.mk g1 v6.name.name v6.name.n v6.name.scopes v6.name.kids) v6.depth v6.one v6.many)).set g2.toNat (Hit.mk (Form.mk v8.name.kind v7 v8.name.n v8.name.scopes v8.name.kids) v8.depth v8.one v8.many)).set g2.toNat (Hit.mk (Form.mk v9.name.kind v9.name.name (w64 ((w64 (g1 + 1)) + 1)) v9.name.scopes v9.name.kids) v9.depth v9.one v9.many)).set g2.toNat (Hit.mk (Form.mk v10.name.kind v10.name.name v10.name.n v11.2 v10.name.kids) v10.depth v10.one v10.many)).set g2.toNat (Hit.mk (Form.mk v12.name.kind v12.name.name v12.name.n v12.name.scopes v13.2) v12.depth v12.one v12.many)).set g2.toNat (Hit.mk v14.name v13.1 v14.one v14.many)).set g2.toNat (Hit.mk v15.name v15.depth (Form.mk (w64 (v13.1 + 1)) v15.one.name v15.one.n v15.one.scopes v15.one.kids) v15.many)).set g2.toNat (Hit.mk v17.name v17.depth (Form.mk v17.one.kind v16 v17.one.n v17.one.scopes v17.one.kids) v17.many)).set g2.toNat (Hit.mk v18.name v18.depth (Form.mk v18.one.kind v18.one.name (w64 ((w64 ((w64 (v13.1 + 1)) + 1)) + 1)) v18.one.scopes v18.one.kids) v18.many)).set g2.toNat (Hit.mk v19.name v19.depth (Form.mk v19.one.kind v19.one.name v19.one.n v20.2 v19.one.kids) v19.many)).set g2.toNat (Hit.mk v21.name v21.depth (Form.mk v21.one.kind v21.one.name v21.one.n v21.one.scopes v22.2) v21.many)) g2).bind fun v23 =>
 (m_laws_markHitS fuel v23.many v22.1).bind fun v24 =>
 m_laws_markHitS_l1 fuel  v24.1 (w64 (g2 + 1)) ((((((((((((g3.set g2.toNat (Hit.mk (Form.mk g1 v6.name.name v6.name.n v6.name.scopes v6.name.kids) v6.depth v6.one v6.many)).set g2.toNat (Hit.mk (Form.mk v8.name.kind v7 v8.name.n v8.name.scopes v8.name.kids) v8.depth v8.one v8.many)).set g2.toNat (Hit.mk (Form.mk v9.name.kind v9.name.name (w64 ((w64 (g1 + 1)) + 1)) v9.name.scopes v9.name.kids) v9.depth v9.one v9.many)).set g2.toNat (Hit.mk (Form.mk v10.name.kind v10.name.name v10.name.n v11.2 v10.name.kids) v10.depth v10.one v10.many)).set g2.toNat (Hit.mk (Form.mk v12.name.kind v12.name.name v12.name.n v12.name.scopes v13.2) v12.depth v12.one v12.many)).set g2.toNat (Hit.mk v14.name v13.1 v14.one v14.many)).set g2.toNat (Hit.mk v15.name v15.depth (Form.mk (w64 (v13.1 + 1)) v15.one.name v15.one.n v15.one.scopes v15.one.kids) v15.many)).set g2.toNat (Hit.mk v17.name v17.depth (Form.mk v17.one.kind v16 v17.one.n v17.one.scopes v17.one.kids) v17.many)).set g2.toNat (Hit.mk v18.name v18.depth (Form.mk v18.one.kind v18.one.name (w64 ((w64 ((w64 (v13.1 + 1)) + 1)) + 1)) v18.one.scopes v18.one.kids) v18.many)).set g2.toNat (Hit.mk v19.name v19.depth (Form.mk v19.one.kind v19.one.name v19.one.n v20.2 v19.one.kids) v19.many)).set g2.toNat (Hit.mk v21.name v21.depth (Form.mk v21.one.kind v21.one.name v21.one.n v21.one.scopes v22.2) v21.many)).set g2.toNat (Hit.mk v23.name v23.depth v23.one v24.2))
 else
 some (g1, g3))
end
def m_laws_heldIntS_l1 (fuel : Nat) (x1 : (List Int)) (g1 : Int) (g2 : Int) : Option Int :=
 match fuel with
 | 0 => none
 | fuel + 1 =>
 (bif (decide (g2 < (x1.length : Int))) then
 (idx x1 g2).bind fun v6 =>
 (bif (decide (v6 ≠ g1)) then
 some (-1)
 else
 m_laws_heldIntS_l1 fuel x1 (w64 (g1 + 1)) (g2 + 1))
 else
 some g1)
def m_laws_heldIntS (fuel : Nat) (x1 : (List Int)) (x2 : Int) : Option Int :=
 m_laws_heldIntS_l1 fuel x1 x2 0
mutual
def m_laws_heldFormS (fuel : Nat) (x1 : (List Form)) (x2 : Int) : Option Int :=
 match fuel with
 | 0 => none
 | fuel + 1 =>
 m_laws_heldFormS_l1 fuel x1 x2 0
def m_laws_heldFormS_l1 (fuel : Nat) (x1 : (List Form)) (g1 : Int) (g2 : Int) : Option Int :=
 match fuel with
 | 0 => none
 | fuel + 1 =>
 (bif (decide (g2 < (x1.length : Int))) then
 (idx x1 g2).bind fun v6 =>
 (bif (decide (v6.kind ≠ g1)) then
 some (-1)
 else
 (idx x1 g2).bind fun v8 =>
 (m_laws_markText fuel (w64 (g1 + 1))).bind fun v9 =>
 (bif (decide (v8.name ≠ v9)) then
 some (-1)
 else
 (idx x1 g2).bind fun v11 =>
 (bif (decide (v11.n ≠ (w64 ((w64 (g1 + 1)) + 1)))) then
 some (-1)
 else
 (idx x1 g2).bind fun v13 =>
 (m_laws_heldIntS fuel v13.scopes (w64 ((w64 ((w64 (g1 + 1)) + 1)) + 1))).bind fun v14 =>
 (bif (decide (v14 < 0)) then
 some (-1)
 else
 (idx x1 g2).bind fun v16 =>
 (m_laws_heldFormS fuel v16.kids v14).bind fun v17 =>
 (bif (decide (v17 < 0)) then
 some (-1)
 else
 m_laws_heldFormS_l1 fuel x1 v17 (g2 + 1))))))
 else
 some g1)
end
def m_laws_heldForm (fuel : Nat) (x1 : Form) (x2 : Int) : Option Int :=
 (m_laws_heldIntS fuel x1.scopes x2).bind fun v1 =>
 (bif (decide (v1 < 0)) then
 some (-1)
 else
 (m_laws_heldFormS fuel x1.kids v1).bind fun v3 =>
 (bif (decide (v3 < 0)) then
 some (-1)
 else
 some v3))
mutual
def m_laws_heldHitS (fuel : Nat) (x1 : (List Hit)) (x2 : Int) : Option Int :=
 match fuel with
 | 0 => none
 | fuel + 1 =>
 m_laws_heldHitS_l1 fuel x1 x2 0
def m_laws_heldHitS_l1 (fuel : Nat) (x1 : (List Hit)) (g1 : Int) (g2 : Int) : Option Int :=
 match fuel with
 | 0 => none
 | fuel + 1 =>
 (bif (decide (g2 < (x1.length : Int))) then
 (idx x1 g2).bind fun v6 =>
 (bif (decide (v6.name.kind ≠ g1)) then
 some (-1)
 else
 (idx x1 g2).bind fun v8 =>
 (m_laws_markText fuel (w64 (g1 + 1))).bind fun v9 =>
 (bif (decide (v8.name.name ≠ v9)) then
 some (-1)
 else
 (idx x1 g2).bind fun v11 =>
 (bif (decide (v11.name.n ≠ (w64 ((w64 (g1 + 1)) + 1)))) then
 some (-1)
 else
 (idx x1 g2).bind fun v13 =>
 (m_laws_heldIntS fuel v13.name.scopes (w64 ((w64 ((w64 (g1 + 1)) + 1)) + 1))).bind fun v14 =>
 (bif (decide (v14 < 0)) then
 some (-1)
 else
 (idx x1 g2).bind fun v16 =>
 (m_laws_heldFormS fuel v16.name.kids v14).bind fun v17 =>
 (bif (decide (v17 < 0)) then
 some (-1)
 else
 (idx x1 g2).bind fun v19 =>
 (bif (decide (v19.depth ≠ v17)) then
 some (-1)
 else
 (idx x1 g2).bind fun v21 =>
 (bif (decide (v21.one.kind ≠ (w64 (v17 + 1)))) then
 some (-1)
 else
 (idx x1 g2).bind fun v23 =>
 (m_laws_markText fuel (w64 ((w64 (v17 + 1)) + 1))).bind fun v24 =>
 (bif (decide (v23.one.name ≠ v24)) then
 some (-1)
 else
 (idx x1 g2).bind fun v26 =>
 (bif (decide (v26.one.n ≠ (w64 ((w64 ((w64 (v17 + 1)) + 1)) + 1)))) then
 some (-1)
 else
 (idx x1 g2).bind fun v28 =>
 (m_laws_heldIntS fuel v28.one.scopes (w64 ((w64 ((w64 ((w64 (v17 + 1)) + 1)) + 1)) + 1))).bind fun v29 =>
 (bif (decide (v29 < 0)) then
 some (-1)
 else
 (idx x1 g2).bind fun v31 =>
 (m_laws_heldFormS fuel v31.one.kids v29).bind fun v32 =>
 (bif (decide (v32 < 0)) then
 some (-1)
 else
 (idx x1 g2).bind fun v34 =>
 (m_laws_heldHitS fuel v34.many v32).bind fun v35 =>
 (bif (decide (v35 < 0)) then
 some (-1)
 else
 m_laws_heldHitS_l1 fuel x1 v35 (g2 + 1)))))))))))))
 else
 some g1)
end
mutual
def m_laws_FnExactFillTemplate_j3 (fuel : Nat) (v10 : Form × Bool) (v30 : Int × (List Int) × (List Form)) (g39 : Bool) : Option Bool :=
 match fuel with
 | 0 => none
 | fuel + 1 =>
 (bif g39 then
 some false
 else
 (m_laws_heldForm fuel (Form.mk v10.1.kind v10.1.name v10.1.n v30.2.1 v30.2.2) 1).bind fun v42 =>
 (bif (decide (v42 < 0)) then
 some false
 else
 (bif (decide (v42 ≠ v30.1)) then
 some false
 else
 some true)))
def m_laws_FnExactFillTemplate_j2 (fuel : Nat) (x1 : Form) (x2 : (List Hit)) (v7 : Form × Bool) (v10 : Form × Bool) (g27 : Bool) : Option Bool :=
 match fuel with
 | 0 => none
 | fuel + 1 =>
 (bif g27 then
 some false
 else
 (m_laws_markForm fuel v10.1 1).bind fun v30 =>
 (m_laws_heldForm fuel (Form.mk v10.1.kind v10.1.name v10.1.n v30.2.1 v30.2.2) 1).bind fun v31 =>
 (bif (decide (v31 < 0)) then
 some false
 else
 (bif (decide (v31 ≠ v30.1)) then
 some false
 else
 (m_laws_toForm fuel x1).bind fun v34 =>
 (m_laws_toHitS fuel x2).bind fun v35 =>
 (m_impl_FillTemplate fuel v34 v35).bind fun v36 =>
 (m_laws_eqForm fuel v36.1 v7.1).bind fun v37 =>
 (bif (!v37) then
 m_laws_FnExactFillTemplate_j3 fuel v10 v30 true
 else
 m_laws_FnExactFillTemplate_j3 fuel v10 v30 (decide (v36.2 ≠ v7.2))))))
def m_laws_FnExactFillTemplate_j1 (fuel : Nat) (x1 : Form) (x2 : (List Hit)) (v7 : Form × Bool) (v8 : Form) (v9 : (List Hit)) (v10 : Form × Bool) (g13 : Bool) : Option Bool :=
 match fuel with
 | 0 => none
 | fuel + 1 =>
 (bif g13 then
 some false
 else
 (m_laws_toForm fuel x1).bind fun v16 =>
 (m_laws_eqForm fuel v8 v16).bind fun v17 =>
 (bif (!v17) then
 some false
 else
 (m_laws_toHitS fuel x2).bind fun v19 =>
 (m_laws_eqHitS fuel v9 v19).bind fun v20 =>
 (bif (!v20) then
 some false
 else
 (m_laws_markForm fuel v8 1).bind fun v22 =>
 (m_laws_markHitS fuel v9 v22.1).bind fun v23 =>
 (bif (decide (v23.1 < 0)) then
 m_laws_FnExactFillTemplate_j2 fuel x1 x2 v7 v10 true
 else
 (m_laws_eqForm fuel v10.1 v7.1).bind fun v25 =>
 (bif (!v25) then
 m_laws_FnExactFillTemplate_j2 fuel x1 x2 v7 v10 true
 else
 m_laws_FnExactFillTemplate_j2 fuel x1 x2 v7 v10 (decide (v10.2 ≠ v7.2)))))))
end
def m_laws_FnExactFillTemplate (fuel : Nat) (x1 : Form) (x2 : (List Hit)) : Option Bool :=
 (m_laws_szForm fuel x1 1048576).bind fun v1 =>
 (bif (decide (v1 < 0)) then
 some true
 else
 (m_laws_szHitS fuel x2 v1).bind fun v3 =>
 (bif (decide (v3 < 0)) then
 some true
 else
 (m_laws_toForm fuel x1).bind fun v5 =>
 (m_laws_toHitS fuel x2).bind fun v6 =>
 (m_spec_FillTemplate fuel v5 v6).bind fun v7 =>
 (m_laws_toForm fuel x1).bind fun v8 =>
 (m_laws_toHitS fuel x2).bind fun v9 =>
 (m_impl_FillTemplate fuel v8 v9).bind fun v10 =>
 (m_laws_eqForm fuel v10.1 v7.1).bind fun v11 =>
 (bif (!v11) then
 m_laws_FnExactFillTemplate_j1 fuel x1 x2 v7 v8 v9 v10 true
 else
 m_laws_FnExactFillTemplate_j1 fuel x1 x2 v7 v8 v9 v10 (decide (v10.2 ≠ v7.2)))))
end Go.Abs
