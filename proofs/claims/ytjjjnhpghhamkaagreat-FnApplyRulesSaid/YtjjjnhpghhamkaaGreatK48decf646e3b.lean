/- A part of the proof: what the functions that the law calls answer, as pure values. -/
import Derived.Test.YtjjjnhpghhamkaaGreatK8d582f2e31e6
import Derived.Test.YtjjjnhpghhamkaaGreatK4f5429558fbb
import Derived.Test.YtjjjnhpghhamkaaGreatK06634278733b
import Derived.Test.YtjjjnhpghhamkaaGreatK8faf616840a9
set_option linter.unusedSimpArgs false
set_option linter.unusedVariables false
set_option maxRecDepth 100000
set_option maxHeartbeats 4000000
namespace Go.Abs
open Go.Proofs
theorem m_spec_l1Read_all (fuel:Nat):zgy fuel:=by
 induction fuel using Nat.strongRecOn with
 | _ N ih =>
   cases N with
   | zero=>exact (by intro x1 x2 x3 r h;rw [zgZ] at h;cases h)
   | succ fu=>exact m_spec_l1Read_st fu (fun k hk=>(ih k (by omega)))
theorem m_spec_l1Read_ok (fuel:Nat):zgy fuel:=(m_spec_l1Read_all fuel)
def m_spec_l1Letter_AC (fuel:Nat):Prop:=∀ (x1:Int) (x2:Bool) (r:Bool),zfK fuel x1 x2=some r→AC Tryz.prog 180 [.t (.sc (.int .u8 x1)),.t (.sc (.bool x2))] noOb (.t (.sc (.bool r))) noOb
theorem m_spec_l1Letter_ok (fuel:Nat):m_spec_l1Letter_AC fuel:=by
 intro x1 x2 r F0
 unfold zfK at F0
 refine AC_i [.t (.sc (.bool r))] Tryz.func180 rfl Tryz.ntmps180 ?_
 intro C hC
 refine zb (za ?_)
 refine s_as ?_
 refine zf (zd (zb (zb (za ?_))))
 refine s_mv ?_
 refine s_ge ?_
 refine s_mv ?_
 refine zo _ 7 F0 ?_ ?_<;>intro C1 F1
 refine s_mv ?_
 refine s_le ?_
 refine zA ?_
 refine s_mv ?_
 refine zo _ 11 F1 ?_ ?_<;>intro C2 F2
 refine r_no rfl (r_no rfl ?_)
 refine zA ?_
 refine s_mv ?_
 refine r_no rfl (r_no rfl ?_)
 refine zA ?_
 refine s_mv ?_
 refine r_no rfl (r_no rfl ?_)
 refine zA ?_
 refine s_mv ?_
 refine r_no rfl (r_no rfl ?_)
 refine zA ?_
 refine s_mv ?_
 refine r_no rfl (r_no rfl ?_)
 refine zA ?_
 refine zf (zd (zT rfl (zb (za ?_))))
 refine s_as ?_
 refine zf (zd (zh (zg (zn ?_))))
 cases F2
 exact zk [] [] Tryz.results180
 refine s_mv ?_
 refine s_eq ?_
 refine zy ?_
 refine s_mv ?_
 refine zo _ 15 F2 ?_ ?_<;>intro C3 F3
 refine r_no rfl (r_no rfl ?_)
 refine zA ?_
 refine s_mv ?_
 refine r_no rfl (r_no rfl ?_)
 refine zA ?_
 refine s_mv ?_
 refine r_no rfl (r_no rfl ?_)
 refine zA ?_
 refine s_mv ?_
 refine r_no rfl (r_no rfl ?_)
 refine zA ?_
 refine zf (zd (zT rfl (zb (za ?_))))
 refine s_as ?_
 refine zf (zd (zh (zg (zn ?_))))
 cases F3
 exact zk [] [] Tryz.results180
 refine s_mv ?_
 refine s_eq ?_
 refine zy ?_
 refine s_mv ?_
 refine zo _ 19 F3 ?_ ?_<;>intro C4 F4
 refine r_no rfl (r_no rfl ?_)
 refine zA ?_
 refine s_mv ?_
 refine r_no rfl (r_no rfl ?_)
 refine zA ?_
 refine s_mv ?_
 refine r_no rfl (r_no rfl ?_)
 refine zA ?_
 refine zf (zd (zT rfl (zb (za ?_))))
 refine s_as ?_
 refine zf (zd (zh (zg (zn ?_))))
 cases F4
 exact zk [] [] Tryz.results180
 refine s_mv ?_
 refine s_eq ?_
 refine zy ?_
 refine s_mv ?_
 refine zo _ 23 F4 ?_ ?_<;>intro C5 F5
 refine r_no rfl (r_no rfl ?_)
 refine zA ?_
 refine s_mv ?_
 refine r_no rfl (r_no rfl ?_)
 refine zA ?_
 refine zf (zd (zT rfl (zb (za ?_))))
 refine s_as ?_
 refine zf (zd (zh (zg (zn ?_))))
 cases F5
 exact zk [] [] Tryz.results180
 refine s_mv ?_
 refine s_eq ?_
 refine zy ?_
 refine s_mv ?_
 refine zo _ 27 F5 ?_ ?_<;>intro C6 F6
 refine r_no rfl (r_no rfl ?_)
 refine zA ?_
 refine zf (zd (zT rfl (zb (za ?_))))
 refine s_as ?_
 refine zf (zd (zh (zg (zn ?_))))
 cases F6
 exact zk [] [] Tryz.results180
 refine s_mv ?_
 refine s_eq ?_
 refine zy ?_
 refine zf (zd ?_)
 refine zm F6 ?_ ?_<;>intro C7 F7
 refine zb (za ?_)
 refine s_as ?_
 refine zf (zd (zh (zg (zn ?_))))
 cases F7
 exact zk [] [] Tryz.results180
 refine zi (zd (zb (za ?_)))
 refine s_mv ?_
 refine zaG ?_
 refine s_mv ?_
 refine zo _ 33 F7 ?_ ?_<;>intro C8 F8
 refine s_mv ?_
 refine s_ge ?_
 refine s_mv ?_
 refine zo _ 36 F8 ?_ ?_<;>intro C9 F9
 refine s_mv ?_
 refine s_le ?_
 refine zA ?_
 refine s_mv ?_
 refine zo _ 40 F9 ?_ ?_<;>intro C10 F10
 refine r_no rfl (r_no rfl ?_)
 refine zA ?_
 refine zA ?_
 refine s_as ?_
 refine zf (zd (zh (zn ?_)))
 cases F10
 exact zk [] [] Tryz.results180
 refine s_mv ?_
 refine s_eq ?_
 refine zy ?_
 refine zA ?_
 refine s_as ?_
 refine zf (zd (zh (zn ?_)))
 cases F10
 exact zk [] [] Tryz.results180
 refine r_no rfl (r_no rfl ?_)
 refine zy ?_
 refine s_mv ?_
 refine s_mv ?_
 refine s_eq ?_
 refine zy ?_
 refine zA ?_
 refine s_as ?_
 refine zf (zd (zh (zn ?_)))
 cases F9
 exact zk [] [] Tryz.results180
 iterate 10 refine r_no rfl ?_
 refine zy ?_
 refine s_as ?_
 refine zf (zd (zh (zn ?_)))
 cases F8
 exact zk [] [] Tryz.results180
 refine r_no rfl (r_no rfl ?_)
 refine zy ?_
 refine s_mv ?_
 refine s_mv ?_
 refine s_eq ?_
 refine zy ?_
 refine s_mv ?_
 refine zo _ 15 F1 ?_ ?_<;>intro C11 F2
 refine r_no rfl (r_no rfl ?_)
 refine zA ?_
 refine s_mv ?_
 refine r_no rfl (r_no rfl ?_)
 refine zA ?_
 refine s_mv ?_
 refine r_no rfl (r_no rfl ?_)
 refine zA ?_
 refine s_mv ?_
 refine r_no rfl (r_no rfl ?_)
 refine zA ?_
 refine zf (zd (zT rfl (zb (za ?_))))
 refine s_as ?_
 refine zf (zd (zh (zg (zn ?_))))
 cases F2
 exact zk [] [] Tryz.results180
 refine s_mv ?_
 refine s_eq ?_
 refine zy ?_
 refine s_mv ?_
 refine zo _ 19 F2 ?_ ?_<;>intro C12 F3
 refine r_no rfl (r_no rfl ?_)
 refine zA ?_
 refine s_mv ?_
 refine r_no rfl (r_no rfl ?_)
 refine zA ?_
 refine s_mv ?_
 refine r_no rfl (r_no rfl ?_)
 refine zA ?_
 refine zf (zd (zT rfl (zb (za ?_))))
 refine s_as ?_
 refine zf (zd (zh (zg (zn ?_))))
 cases F3
 exact zk [] [] Tryz.results180
 refine s_mv ?_
 refine s_eq ?_
 refine zy ?_
 refine s_mv ?_
 refine zo _ 23 F3 ?_ ?_<;>intro C13 F4
 refine r_no rfl (r_no rfl ?_)
 refine zA ?_
 refine s_mv ?_
 refine r_no rfl (r_no rfl ?_)
 refine zA ?_
 refine zf (zd (zT rfl (zb (za ?_))))
 refine s_as ?_
 refine zf (zd (zh (zg (zn ?_))))
 cases F4
 exact zk [] [] Tryz.results180
 refine s_mv ?_
 refine s_eq ?_
 refine zy ?_
 refine s_mv ?_
 refine zo _ 27 F4 ?_ ?_<;>intro C14 F5
 refine r_no rfl (r_no rfl ?_)
 refine zA ?_
 refine zf (zd (zT rfl (zb (za ?_))))
 refine s_as ?_
 refine zf (zd (zh (zg (zn ?_))))
 cases F5
 exact zk [] [] Tryz.results180
 refine s_mv ?_
 refine s_eq ?_
 refine zy ?_
 refine zf (zd ?_)
 refine zm F5 ?_ ?_<;>intro C15 F6
 refine zb (za ?_)
 refine s_as ?_
 refine zf (zd (zh (zg (zn ?_))))
 cases F6
 exact zk [] [] Tryz.results180
 refine zi (zd (zb (za ?_)))
 refine s_mv ?_
 refine zaG ?_
 refine s_mv ?_
 refine zo _ 33 F6 ?_ ?_<;>intro C16 F7
 refine s_mv ?_
 refine s_ge ?_
 refine s_mv ?_
 refine zo _ 36 F7 ?_ ?_<;>intro C17 F8
 refine s_mv ?_
 refine s_le ?_
 refine zA ?_
 refine s_mv ?_
 refine zo _ 40 F8 ?_ ?_<;>intro C18 F9
 refine r_no rfl (r_no rfl ?_)
 refine zA ?_
 refine zA ?_
 refine s_as ?_
 refine zf (zd (zh (zn ?_)))
 cases F9
 exact zk [] [] Tryz.results180
 refine s_mv ?_
 refine s_eq ?_
 refine zy ?_
 refine zA ?_
 refine s_as ?_
 refine zf (zd (zh (zn ?_)))
 cases F9
 exact zk [] [] Tryz.results180
 refine r_no rfl (r_no rfl ?_)
 refine zy ?_
 refine s_mv ?_
 refine s_mv ?_
 refine s_eq ?_
 refine zy ?_
 refine zA ?_
 refine s_as ?_
 refine zf (zd (zh (zn ?_)))
 cases F8
 exact zk [] [] Tryz.results180
 iterate 10 refine r_no rfl ?_
 refine zy ?_
 refine s_as ?_
 refine zf (zd (zh (zn ?_)))
 cases F7
 exact zk [] [] Tryz.results180
def m_spec_NameValid_AC (fuel:Nat):Prop:=∀ (x1:ByteArray) (r:Bool),zd8 fuel x1=some r→AC Tryz.prog 125 [.t (.sc (.str x1))] noOb (.t (.sc (.bool r))) noOb
theorem zh3 (fuel:Nat):m_spec_NameValid_AC fuel:=by
 intro x1 r F0
 unfold zd8 at F0
 refine AC_i [.t (.sc (.bool r))] Tryz.func125 rfl Tryz.ntmps125 ?_
 intro C hC
 refine zb (za ?_)
 refine s_as ?_
 refine zf (zd (zb (zb (za ?_))))
 refine s_mv ?_
 refine zhv ?_
 refine s_mv ?_
 refine zo _ 6 F0 ?_ ?_<;>intro C1 F1
 refine r_no rfl (r_no rfl ?_)
 refine zA ?_
 refine zf (zd (zT rfl (zb (za ?_))))
 refine s_as ?_
 refine zf (zd (zh (zg (zn ?_))))
 cases F1
 exact zk [] [] Tryz.results125
 refine s_mv ?_
 refine zhv ?_
 refine zy ?_
 refine zf (zd ?_)
 refine zm F1 ?_ ?_<;>intro C2 F2
 refine zb (za ?_)
 refine s_as ?_
 refine zf (zd (zh (zg (zn ?_))))
 cases F2
 exact zk [] [] Tryz.results125
 refine zi (zd (zb (zb (za ?_))))
 refine s_as ?_
 refine zf (zd (zl ?_))
 refine zaP (β:=Int) [2,3,10,11,12,13,14,15,16,17,18,19,20,21,22,23,24,25,26] [] [] (fun a=>[(3,.t (.sc (.int .i64 a.2)))]) (fun a=>[]) (fun a=>a.1≤fuel∧zbJ a.1 x1 a.2=some r) (fuel,0) ⟨Nat.le_refl _,F2⟩ ?_
 clear F2
 rintro ⟨fu,g3⟩ ⟨hl4,F3⟩
 dsimp only at hl4 F3 ⊢
 obtain _ | fu:=fu
 · rw [zbJ] at F3;cases F3
 rw [zbJ] at F3
 refine zb (zb (za ?_))
 refine s_mv ?_
 refine s_mv ?_
 refine zfH yU9 ?_
 refine s_lt ?_
 refine s_mv ?_
 refine zo _ 14 F3 ?_ ?_<;>intro C5 F4
 refine s_mv ?_
 refine s_le ?_
 refine zA ?_
 refine zf (zd ?_)
 refine zm F4 ?_ ?_<;>intro C6 F5
 refine zi (zd (zb (zl (zb (za ?_)))))
 refine s_mv ?_
 refine s_mv ?_
 obtain ⟨v7,V7,F6⟩:=zc F5
 refine s_ixS V7 yU9 ?_
 refine s_mv ?_
 refine s_eq ?_
 obtain ⟨v8,V8,F7⟩:=zc F6
 refine zv [] (m_spec_l1Letter_ok fu _ _ _ V8) ?_
 refine zaG ?_
 refine zf (zd ?_)
 refine zm F7 ?_ ?_<;>intro C9 F8
 refine zb (za ?_)
 refine s_as ?_
 refine zf (zd (zh (zj (zg (zw (zj (zg (zn ?_))))))))
 cases F8
 exact zk [] [] Tryz.results125
 refine zi (zW (zd (za ?_)))
 refine s_mv ?_
 refine zJ rfl ?_
 refine s_as ?_
 refine zf ?_
 exact s_rn (fu,(w64 (g3+1))) ⟨by first | omega | (dsimp only;omega),F8⟩
 refine zz (zq (zp (zr (zd (zb (za ?_))))))
 refine s_mv ?_
 refine zfH yU9 ?_
 refine s_ge ?_
 refine s_mv ?_
 refine zo _ 30 F5 ?_ ?_<;>intro C10 F6
 refine s_mv ?_
 refine zfH yU9 ?_
 refine s_le ?_
 refine zA ?_
 refine s_as ?_
 refine zf (zd (zh (zn ?_)))
 cases F6
 exact zk [] [] Tryz.results125
 iterate 3 refine r_no rfl ?_
 refine zy ?_
 refine s_as ?_
 refine zf (zd (zh (zn ?_)))
 cases F6
 exact zk [] [] Tryz.results125
 refine r_no rfl (r_no rfl ?_)
 refine zy ?_
 refine zf (zd (zaZ rfl (zz (zq (zp (zr (zd (zb (za ?_)))))))))
 refine s_mv ?_
 refine zfH yU9 ?_
 refine s_ge ?_
 refine s_mv ?_
 refine zo _ 30 F4 ?_ ?_<;>intro C11 F5
 refine s_mv ?_
 refine zfH yU9 ?_
 refine s_le ?_
 refine zA ?_
 refine s_as ?_
 refine zf (zd (zh (zn ?_)))
 cases F5
 exact zk [] [] Tryz.results125
 iterate 3 refine r_no rfl ?_
 refine zy ?_
 refine s_as ?_
 refine zf (zd (zh (zn ?_)))
 cases F5
 exact zk [] [] Tryz.results125
def m_spec_l1Scopes_AC (fuel:Nat):Prop:=∀ (x1:(List Int)) (r:Bool),zeA fuel x1=some r→AC Tryz.prog 126 [.t (.sl (x1.map rI))] noOb (.t (.sc (.bool r))) noOb
theorem zio (fuel:Nat):m_spec_l1Scopes_AC fuel:=by
 intro x1 r F0
 unfold zeA at F0
 refine AC_i [.t (.sc (.bool r))] Tryz.func126 rfl Tryz.ntmps126 ?_
 intro C hC
 refine zb (za ?_)
 refine s_as ?_
 refine zf (zd (zb (zb (za ?_))))
 refine s_as ?_
 refine zf (zd (zl ?_))
 refine zaP (β:=Int) [2,3,4,5,6,7,8,9,10,11,12,13,14,15,16,17,18,19,20,21,22,23,24,25,26,27,28,29,30,31,32,33,34,35,36,37,38,39,40,41] [] [] (fun a=>[(3,.t (.sc (.int .i64 a.2)))]) (fun a=>[]) (fun a=>a.1≤fuel∧zbD a.1 x1 a.2=some r) (fuel,0) ⟨Nat.le_refl _,F0⟩ ?_
 clear F0
 rintro ⟨fu,g1⟩ ⟨hl2,F1⟩
 dsimp only at hl2 F1 ⊢
 obtain _ | fu:=fu
 · rw [zbD] at F1;cases F1
 rw [zbD] at F1
 refine zb (zb (za ?_))
 refine s_mv ?_
 refine s_mv ?_
 refine zC yU24 ?_
 refine s_lt ?_
 refine s_mv ?_
 refine zo _ 8 F1 ?_ ?_<;>intro C3 F2
 refine s_mv ?_
 refine s_le ?_
 refine zA ?_
 refine zf (zd ?_)
 refine zm F2 ?_ ?_<;>intro C4 F3
 refine zi (zd (zb (zl (zb ?_))))
 refine zP yMix (by kernel_rfl) ?_
 refine s_mv ?_
 refine s_mv ?_
 obtain ⟨v5,V5,F4⟩:=zc F3
 refine zK rI V5 rfl yE24 ?_
 refine zu yA3 ?_
 refine s_lt ?_
 refine s_mv ?_
 refine zo _ 19 F4 ?_ ?_<;>intro C6 F5
 iterate 5 refine r_no rfl ?_
 refine zA ?_
 refine s_mv ?_
 iterate 14 refine r_no rfl ?_
 refine zA ?_
 refine zah (by kernel_rfl) ?_
 refine zd (zT rfl (zb (za ?_)))
 refine s_as ?_
 refine zf (zd (zh (zj (zg (zw (zj (zg (zn ?_))))))))
 cases F5
 exact zk [] [] Tryz.results126
 refine s_mv ?_
 refine s_mv ?_
 obtain ⟨v7,V7,F6⟩:=zc F5
 refine zK rI V7 rfl yE24 ?_
 refine zu yA3 ?_
 refine s_gt ?_
 refine zy ?_
 refine s_mv ?_
 refine zo _ 26 F6 ?_ ?_<;>intro C8 F7
 iterate 14 refine r_no rfl ?_
 refine zA ?_
 refine zah (by kernel_rfl) ?_
 refine zd (zT rfl (zb (za ?_)))
 refine s_as ?_
 refine zf (zd (zh (zj (zg (zw (zj (zg (zn ?_))))))))
 cases F7
 exact zk [] [] Tryz.results126
 refine s_mv ?_
 refine s_gt ?_
 refine s_mv ?_
 refine zo _ 29 F7 ?_ ?_<;>intro C9 F8
 refine s_mv ?_
 refine s_mv ?_
 obtain ⟨v10,V10,F9⟩:=zc F8
 refine zK rI V10 rfl yE24 ?_
 refine zu yA3 ?_
 refine s_mv ?_
 refine s_mv ?_
 refine zih rfl ?_
 obtain ⟨v11,V11,F10⟩:=zc F9
 refine zK rI V11 rfl yE24 ?_
 refine zu yA3 ?_
 refine s_le ?_
 refine zA ?_
 refine zy ?_
 refine zah (by kernel_rfl) ?_
 refine zd ?_
 refine zm F10 ?_ ?_<;>intro C12 F11
 refine zb (za ?_)
 refine s_as ?_
 refine zf (zd (zh (zj (zg (zw (zj (zg (zn ?_))))))))
 cases F11
 exact zk [] [] Tryz.results126
 refine zi (zW (zd (za ?_)))
 refine s_mv ?_
 refine zJ rfl ?_
 refine s_as ?_
 refine zf ?_
 exact s_rn (fu,(w64 (g1+1))) ⟨by first | omega | (dsimp only;omega),F11⟩
 iterate 10 refine r_no rfl ?_
 refine zy ?_
 refine zy ?_
 refine zah (by kernel_rfl) ?_
 refine zd (zaZ rfl (zi (zW (zd (za ?_)))))
 refine s_mv ?_
 refine zJ rfl ?_
 refine s_as ?_
 refine zf ?_
 exact s_rn (fu,(w64 (g1+1))) ⟨by first | omega | (dsimp only;omega),F8⟩
 refine zz (zq (zp (zr (zd (zb (za ?_))))))
 refine s_mv ?_
 refine zC yU24 ?_
 refine s_le ?_
 refine s_as ?_
 refine zf (zd (zh (zn ?_)))
 cases F3
 exact zk [] [] Tryz.results126
 refine r_no rfl (r_no rfl ?_)
 refine zy ?_
 refine zf (zd (zaZ rfl (zz (zq (zp (zr (zd (zb (za ?_)))))))))
 refine s_mv ?_
 refine zC yU24 ?_
 refine s_le ?_
 refine s_as ?_
 refine zf (zd (zh (zn ?_)))
 cases F2
 exact zk [] [] Tryz.results126
def zhq (fuel:Nat):Prop:=∀ (x1:Form) (x2:Int) (r:Bool),zfL fuel x1 x2=some r→AC Tryz.prog 133 [.ag [.t (.sc (.int .i64 x1.kind)),.t (.sc (.str x1.name)),.t (.sc (.int .i64 x1.n)),.t (.sl (x1.scopes.map rI)),.t (.sl (x1.kids.map Form.row))],.t (.sc (.int .i64 x2))] noOb (.t (.sc (.bool r))) noOb
theorem m_spec_l1Is_st (fu:Nat) (ih_m_spec_l1Is:∀ k,k≤fu→zhq k):zhq (fu+1):=by
 intro x1 x2 r F0
 rw [zfL] at F0
 refine AC_i [.t (.sc (.bool r))] Tryz.func133 rfl Tryz.ntmps133 ?_
 intro C hC
 refine zb (za ?_)
 refine zaN ?_
 refine s_as ?_
 refine zf (zd (zb (zb (za ?_))))
 refine s_mv ?_
 refine s_eq ?_
 refine zf (zd ?_)
 refine zm F0 ?_ ?_<;>intro C1 F1
 refine zb (za ?_)
 refine s_as ?_
 refine zf (zd (zh (zg (zn ?_))))
 cases F1
 exact zk [] [] Tryz.results133
 refine zi (zd (zb (zb (za ?_))))
 refine s_fa zc1 ?_
 refine zu yA3 ?_
 refine zf (zd (zl (zb (za ?_))))
 refine s_eq ?_
 refine s_as ?_
 refine zf (zd ?_)
 refine zm F1 ?_ ?_<;>intro C2 F2
 refine zb (za ?_)
 refine s_fa zcp ?_
 refine zu yA9 ?_
 obtain ⟨v3,V3,F3⟩:=zc F2
 refine zv [] (zh3 fu _ _ V3) ?_
 refine s_mv ?_
 refine zo _ 15 F3 ?_ ?_<;>intro C4 F4
 refine s_fa zhu ?_
 refine zu yA3 ?_
 refine s_eq ?_
 refine zA ?_
 refine s_mv ?_
 refine zo _ 20 F4 ?_ ?_<;>intro C5 F5
 refine s_fa zf9 ?_
 refine zu yA24 ?_
 obtain ⟨v6,V6,F6⟩:=zc F5
 refine zv [] (zio fu _ _ V6) ?_
 refine zA ?_
 refine s_mv ?_
 refine zo _ 25 F6 ?_ ?_<;>intro C7 F7
 refine s_fa zF ?_
 refine zu yA25 ?_
 refine zC yU25 ?_
 refine s_eq ?_
 refine zA ?_
 refine s_as ?_
 refine zf (zd (zh (zj (zg (zn ?_)))))
 cases F7
 exact zk [] [] Tryz.results133
 iterate 4 refine r_no rfl ?_
 refine zy ?_
 refine s_as ?_
 refine zf (zd (zh (zj (zg (zn ?_)))))
 cases F7
 exact zk [] [] Tryz.results133
 iterate 3 refine r_no rfl ?_
 refine zy ?_
 refine s_mv ?_
 iterate 4 refine r_no rfl ?_
 refine zy ?_
 refine s_as ?_
 refine zf (zd (zh (zj (zg (zn ?_)))))
 cases F5
 exact zk [] [] Tryz.results133
 iterate 3 refine r_no rfl ?_
 refine zy ?_
 refine s_mv ?_
 iterate 3 refine r_no rfl ?_
 refine zy ?_
 refine s_mv ?_
 iterate 4 refine r_no rfl ?_
 refine zy ?_
 refine s_as ?_
 refine zf (zd (zh (zj (zg (zn ?_)))))
 cases F4
 exact zk [] [] Tryz.results133
 refine zb (za ?_)
 refine s_eq ?_
 refine s_as ?_
 refine zf (zd ?_)
 refine zm F2 ?_ ?_<;>intro C8 F3
 refine zb (za ?_)
 refine s_fa zcp ?_
 refine zu yA9 ?_
 refine zhv ?_
 refine s_mv ?_
 refine zo _ 36 F3 ?_ ?_<;>intro C9 F4
 refine s_fa zhu ?_
 refine zu yA3 ?_
 refine s_ge ?_
 refine zA ?_
 refine s_mv ?_
 refine zo _ 41 F4 ?_ ?_<;>intro C10 F5
 refine s_fa zhu ?_
 refine zu yA3 ?_
 refine s_le ?_
 refine zA ?_
 refine s_mv ?_
 refine zo _ 46 F5 ?_ ?_<;>intro C11 F6
 refine s_fa zf9 ?_
 refine zu yA24 ?_
 refine zC yU24 ?_
 refine s_eq ?_
 refine zA ?_
 refine s_mv ?_
 refine zo _ 52 F6 ?_ ?_<;>intro C12 F7
 refine s_fa zF ?_
 refine zu yA25 ?_
 refine zC yU25 ?_
 refine s_eq ?_
 refine zA ?_
 refine s_as ?_
 refine zf (zd (zh (zj (zg (zn ?_)))))
 cases F7
 exact zk [] [] Tryz.results133
 iterate 4 refine r_no rfl ?_
 refine zy ?_
 refine s_as ?_
 refine zf (zd (zh (zj (zg (zn ?_)))))
 cases F7
 exact zk [] [] Tryz.results133
 iterate 4 refine r_no rfl ?_
 refine zy ?_
 refine s_mv ?_
 iterate 4 refine r_no rfl ?_
 refine zy ?_
 refine s_as ?_
 refine zf (zd (zh (zj (zg (zn ?_)))))
 cases F6
 exact zk [] [] Tryz.results133
 iterate 3 refine r_no rfl ?_
 refine zy ?_
 refine s_mv ?_
 iterate 4 refine r_no rfl ?_
 refine zy ?_
 refine s_mv ?_
 iterate 4 refine r_no rfl ?_
 refine zy ?_
 refine s_as ?_
 refine zf (zd (zh (zj (zg (zn ?_)))))
 cases F5
 exact zk [] [] Tryz.results133
 iterate 3 refine r_no rfl ?_
 refine zy ?_
 refine s_mv ?_
 iterate 3 refine r_no rfl ?_
 refine zy ?_
 refine s_mv ?_
 iterate 4 refine r_no rfl ?_
 refine zy ?_
 refine s_mv ?_
 iterate 4 refine r_no rfl ?_
 refine zy ?_
 refine s_as ?_
 refine zf (zd (zh (zj (zg (zn ?_)))))
 cases F4
 exact zk [] [] Tryz.results133
 refine zi (zW (zd (zb (zb (za ?_)))))
 refine s_fa zc1 ?_
 refine zu yA3 ?_
 refine s_ne ?_
 refine s_mv ?_
 refine zo _ 61 F3 ?_ ?_<;>intro C13 F4
 iterate 3 refine r_no rfl ?_
 refine zA ?_
 refine s_mv ?_
 iterate 3 refine r_no rfl ?_
 refine zA ?_
 refine s_mv ?_
 iterate 4 refine r_no rfl ?_
 refine zA ?_
 refine zf (zd (zT rfl (zb (za ?_))))
 refine s_as ?_
 refine zf (zd (zh (zg (zn ?_))))
 cases F4
 exact zk [] [] Tryz.results133
 refine s_fa zcp ?_
 refine zu yA9 ?_
 refine s_neS ?_
 refine zy ?_
 refine s_mv ?_
 refine zo _ 66 F4 ?_ ?_<;>intro C14 F5
 iterate 3 refine r_no rfl ?_
 refine zA ?_
 refine s_mv ?_
 iterate 4 refine r_no rfl ?_
 refine zA ?_
 refine zf (zd (zT rfl (zb (za ?_))))
 refine s_as ?_
 refine zf (zd (zh (zg (zn ?_))))
 cases F5
 exact zk [] [] Tryz.results133
 refine s_fa zhu ?_
 refine zu yA3 ?_
 refine s_ne ?_
 refine zy ?_
 refine s_mv ?_
 refine zo _ 71 F5 ?_ ?_<;>intro C15 F6
 iterate 4 refine r_no rfl ?_
 refine zA ?_
 refine zf (zd (zT rfl (zb (za ?_))))
 refine s_as ?_
 refine zf (zd (zh (zg (zn ?_))))
 cases F6
 exact zk [] [] Tryz.results133
 refine s_fa zf9 ?_
 refine zu yA24 ?_
 refine zC yU24 ?_
 refine s_ne ?_
 refine zy ?_
 refine zf (zd ?_)
 refine zm F6 ?_ ?_<;>intro C16 F7
 refine zb (za ?_)
 refine s_as ?_
 refine zf (zd (zh (zg (zn ?_))))
 cases F7
 exact zk [] [] Tryz.results133
 refine zi (zd (zb (zb (za ?_))))
 refine s_as ?_
 refine zf (zd (zl ?_))
 refine zaP (β:=Int) [4,5,77,78,79,80,81,82,83,84,85,86,87,88,89,90,91,92] [] [] (fun a=>[(5,.t (.sc (.int .i64 a.2)))]) (fun a=>[]) (fun a=>a.1≤fu∧zep a.1 x1 x2 a.2=some r∧0≤a.2) (fu,0) ⟨Nat.le_refl _,F7,by simp⟩ ?_
 clear F7
 rintro ⟨fu,g17⟩ ⟨hl18,F8,hn_g17⟩
 dsimp only at hl18 F8 hn_g17 ⊢
 obtain _ | fu:=fu
 · rw [zep] at F8;cases F8
 rw [zep] at F8
 refine zb (zb (za ?_))
 refine s_mv ?_
 refine s_fa zF ?_
 refine zu yA25 ?_
 refine zC yU25 ?_
 refine s_lt ?_
 refine zf (zd ?_)
 refine zm F8 ?_ ?_<;>intro C19 F9
 refine zM 79 (fun B20=>?_)
 refine zi (zd (zb (zl (zb (za ?_)))))
 refine s_fa zF ?_
 refine zu yA25 ?_
 refine s_mv ?_
 obtain ⟨v21,V21,F10⟩:=zc F9
 refine zK Form.row V21 (Form.row_eq _) yE25 ?_
 refine zai yA27 yS27 ?_
 refine s_mv ?_
 refine zih rfl ?_
 obtain ⟨v22,V22,F11⟩:=zc F10
 refine zv [] (ih_m_spec_l1Is fu (by omega) _ _ _ V22) ?_
 refine zaG ?_
 refine zf (zd ?_)
 refine zm F11 ?_ ?_<;>intro C23 F12
 refine zb (za ?_)
 refine s_as ?_
 refine zf (zd (zh (zj (zg (zw (zj (zg (zn ?_))))))))
 cases F12
 exact zk [] [] Tryz.results133
 refine zi (zW (zd (za ?_)))
 refine s_mv ?_
 refine zJ (zar C19 B20 hn_g17) ?_
 refine s_as ?_
 refine zf ?_
 exact s_rn (fu,(g17+1)) ⟨by first | omega | (dsimp only;omega),F12,by first | omega | (dsimp only;omega)⟩
 refine zz (zq (zp (zr (zd (zb (za ?_))))))
 refine s_as ?_
 refine zf (zd (zh (zn ?_)))
 cases F9
 exact zk [] [] Tryz.results133
theorem m_spec_l1Is_all (fuel:Nat):zhq fuel:=by
 induction fuel using Nat.strongRecOn with
 | _ N ih =>
   cases N with
   | zero=>exact (by intro x1 x2 r h;rw [zfL] at h;cases h)
   | succ fu=>exact m_spec_l1Is_st fu (fun k hk=>(ih k (by omega)))
theorem m_spec_l1Is_ok (fuel:Nat):zhq fuel:=(m_spec_l1Is_all fuel)
def zf3 (fuel:Nat):Prop:=∀ (x1:Form) (r:Int),zdK fuel x1=some r→AC Tryz.prog 134 [.ag [.t (.sc (.int .i64 x1.kind)),.t (.sc (.str x1.name)),.t (.sc (.int .i64 x1.n)),.t (.sl (x1.scopes.map rI)),.t (.sl (x1.kids.map Form.row))]] noOb (.t (.sc (.int .i64 r))) noOb
theorem m_spec_l1Count_st (fu:Nat) (ih_m_spec_l1Count:∀ k,k≤fu→zf3 k):zf3 (fu+1):=by
 intro x1 r F0
 rw [zdK] at F0
 refine AC_i [.t (.sc (.int .i64 r))] Tryz.func134 rfl Tryz.ntmps134 ?_
 intro C hC
 refine zb (za ?_)
 refine zaN ?_
 refine s_as ?_
 refine zf (zd (zb (za ?_)))
 refine s_as ?_
 refine zf (zd (zb (zb (za ?_))))
 refine s_as ?_
 refine zf (zd (zl ?_))
 refine zaP (β:=Int × Int) [3,4,5,6,7,8,9,10,11,12,13,14,15,16,17,18,19] [] [] (fun a=>[(3,.t (.sc (.int .i64 a.2.1))),(4,.t (.sc (.int .i64 a.2.2)))]) (fun a=>[]) (fun a=>a.1≤fu∧zcm a.1 x1 a.2.1 a.2.2=some r∧0≤a.2.2) (fu,1,0) ⟨Nat.le_refl _,F0,by simp⟩ ?_
 clear F0
 rintro ⟨fu,g1,g2⟩ ⟨hl3,F1,hn_g2⟩
 dsimp only at hl3 F1 hn_g2 ⊢
 obtain _ | fu:=fu
 · rw [zcm] at F1;cases F1
 rw [zcm] at F1
 refine zb (zb (za ?_))
 refine s_mv ?_
 refine s_fa zF ?_
 refine zu yA25 ?_
 refine zC yU25 ?_
 refine s_lt ?_
 refine zf (zd ?_)
 refine zm F1 ?_ ?_<;>intro C4 F2
 refine zM 7 (fun B5=>?_)
 refine zi (zd (zb (zl (za ?_))))
 refine s_mv ?_
 refine s_fa zF ?_
 refine zu yA25 ?_
 refine s_mv ?_
 obtain ⟨v6,V6,F3⟩:=zc F2
 refine zK Form.row V6 (Form.row_eq _) yE25 ?_
 refine zai yA27 yS27 ?_
 obtain ⟨v7,V7,F4⟩:=zc F3
 refine zv [] (ih_m_spec_l1Count fu (by omega) _ _ V7) ?_
 refine zJ rfl ?_
 refine s_as ?_
 refine zf (zW (zd (za ?_)))
 refine s_mv ?_
 refine zJ (zar C4 B5 hn_g2) ?_
 refine s_as ?_
 refine zf ?_
 exact s_rn (fu,(w64 (g1+v7)),(g2+1)) ⟨by first | omega | (dsimp only;omega),F4,by first | omega | (dsimp only;omega)⟩
 refine zz (zq (zp (zr (zd (zb (za ?_))))))
 refine s_mv ?_
 refine s_as ?_
 refine zf (zd (zh (zn ?_)))
 cases F2
 exact zk [] [] Tryz.results134
theorem m_spec_l1Count_all (fuel:Nat):zf3 fuel:=by
 induction fuel using Nat.strongRecOn with
 | _ N ih =>
   cases N with
   | zero=>exact (by intro x1 r h;rw [zdK] at h;cases h)
   | succ fu=>exact m_spec_l1Count_st fu (fun k hk=>(ih k (by omega)))
theorem ziM (fuel:Nat):zf3 fuel:=(m_spec_l1Count_all fuel)
def m_spec_FormValid_AC (fuel:Nat):Prop:=∀ (x1:Form) (r:Bool),zbq fuel x1=some r→AC Tryz.prog 64 [.ag [.t (.sc (.int .i64 x1.kind)),.t (.sc (.str x1.name)),.t (.sc (.int .i64 x1.n)),.t (.sl (x1.scopes.map rI)),.t (.sl (x1.kids.map Form.row))]] noOb (.t (.sc (.bool r))) noOb
theorem zcf (fuel:Nat):m_spec_FormValid_AC fuel:=by
 intro x1 r F0
 unfold zbq at F0
 refine AC_i [.t (.sc (.bool r))] Tryz.func64 rfl Tryz.ntmps64 ?_
 intro C hC
 refine zb (za ?_)
 refine zaN ?_
 refine s_as ?_
 refine zf (zd (zb (za ?_)))
 refine zG yA27 yS27 ?_
 obtain ⟨v1,V1,F1⟩:=zc F0
 refine zv [] (m_spec_l1Is_ok fuel _ _ _ V1) ?_
 refine s_mv ?_
 refine zo _ 5 F1 ?_ ?_<;>intro C2 F2
 refine zG yA27 yS27 ?_
 obtain ⟨v3,V3,F3⟩:=zc F2
 refine zv [] (ziM fuel _ _ V3) ?_
 refine s_le ?_
 refine zA ?_
 refine s_as ?_
 refine zf (zd (zh (zn ?_)))
 cases F3
 exact zk [] [] Tryz.results64
 iterate 3 refine r_no rfl ?_
 refine zy ?_
 refine s_as ?_
 refine zf (zd (zh (zn ?_)))
 cases F2
 exact zk [] [] Tryz.results64
def m_spec_ParseForm_AC (fuel:Nat):Prop:=∀ (x1:ByteArray) (r:(Form × Bool)),zhI fuel x1=some r→AC Tryz.prog 175 [.t (.sc (.str x1))] noOb (.tp [.ag [.t (.sc (.int .i64 r.1.kind)),.t (.sc (.str r.1.name)),.t (.sc (.int .i64 r.1.n)),.t (.sl (r.1.scopes.map rI)),.t (.sl (r.1.kids.map Form.row))],.t (.sc (.bool r.2))]) noOb
theorem m_spec_ParseForm_ok (fuel:Nat):m_spec_ParseForm_AC fuel:=by
 intro x1 r F0
 unfold zhI at F0
 refine AC_i [.ag [.t (.sc (.int .i64 r.1.kind)),.t (.sc (.str r.1.name)),.t (.sc (.int .i64 r.1.n)),.t (.sl (r.1.scopes.map rI)),.t (.sl (r.1.kids.map Form.row))],.t (.sc (.bool r.2))] Tryz.func175 rfl Tryz.ntmps175 ?_
 intro C hC
 refine zb (za ?_)
 refine zU yZ27 ?_
 refine s_as ?_
 refine zf (zd (zb (za ?_)))
 refine s_mv ?_
 obtain ⟨v1,V1,F1⟩:=zc F0
 refine zv [] (m_spec_l1Read_ok fuel _ _ _ _ V1) ?_
 refine s_mv ?_
 refine za4 ?_
 refine za4 ?_
 refine zU yZ27 ?_
 refine zab yS27 ?_
 refine s_as ?_
 refine zf (zd (zb (zb (za ?_))))
 refine s_mv ?_
 refine s_lt ?_
 refine s_mv ?_
 refine zo _ 13 F1 ?_ ?_<;>intro C2 F2
 iterate 6 refine r_no rfl ?_
 refine zA ?_
 refine s_mv ?_
 iterate 3 refine r_no rfl ?_
 refine zA ?_
 refine zf (zd (zT rfl (zb (za ?_))))
 refine zgE yZ27 yL27 ?_
 refine zab yS27 ?_
 refine s_as ?_
 refine zf (zd (zh (zg (zn ?_))))
 cases F2
 exact zZ [] [] (by rw [Tryz.results175];exact (zas (by conv=>lhs;whnf) (by conv=>lhs;whnf) yA27 yS27 rfl (zaj (by conv=>lhs;whnf) zae)))
 refine s_mv ?_
 refine s_mv ?_
 obtain ⟨v3,V3,F3⟩:=zc F2
 refine zv [] (zgw fuel _ _ _ V3) ?_
 refine s_mv ?_
 refine zfH yU9 ?_
 refine s_ne ?_
 refine zy ?_
 refine s_mv ?_
 refine zo _ 21 F3 ?_ ?_<;>intro C4 F4
 iterate 3 refine r_no rfl ?_
 refine zA ?_
 refine zf (zd (zT rfl (zb (za ?_))))
 refine zgE yZ27 yL27 ?_
 refine zab yS27 ?_
 refine s_as ?_
 refine zf (zd (zh (zg (zn ?_))))
 cases F4
 exact zZ [] [] (by rw [Tryz.results175];exact (zas (by conv=>lhs;whnf) (by conv=>lhs;whnf) yA27 yS27 rfl (zaj (by conv=>lhs;whnf) zae)))
 refine zG yA27 yS27 ?_
 obtain ⟨v5,V5,F5⟩:=zc F4
 refine zv [] (zcf fuel _ _ V5) ?_
 refine zaG ?_
 refine zy ?_
 refine zf (zd ?_)
 refine zm F5 ?_ ?_<;>intro C6 F6
 refine zb (za ?_)
 refine zgE yZ27 yL27 ?_
 refine zab yS27 ?_
 refine s_as ?_
 refine zf (zd (zh (zg (zn ?_))))
 cases F6
 exact zZ [] [] (by rw [Tryz.results175];exact (zas (by conv=>lhs;whnf) (by conv=>lhs;whnf) yA27 yS27 rfl (zaj (by conv=>lhs;whnf) zae)))
 refine zi (zd (zb (za ?_)))
 refine zG yA27 yS27 ?_
 refine zab yS27 ?_
 refine s_as ?_
 refine zf (zd (zh (zn ?_)))
 cases F6
 exact zZ [] [] (by rw [Tryz.results175];exact (zas (by conv=>lhs;whnf) (by conv=>lhs;whnf) yA27 yS27 rfl (zaj (by conv=>lhs;whnf) zae)))
def m_spec_l1Parse_AC (fuel:Nat):Prop:=∀ (x1:ByteArray) (r:Form),zeo fuel x1=some r→AC Tryz.prog 118 [.t (.sc (.str x1))] noOb (.ag [.t (.sc (.int .i64 r.kind)),.t (.sc (.str r.name)),.t (.sc (.int .i64 r.n)),.t (.sl (r.scopes.map rI)),.t (.sl (r.kids.map Form.row))]) noOb
theorem zf0 (fuel:Nat):m_spec_l1Parse_AC fuel:=by
 intro x1 r F0
 unfold zeo at F0
 refine AC_i [.ag [.t (.sc (.int .i64 r.kind)),.t (.sc (.str r.name)),.t (.sc (.int .i64 r.n)),.t (.sl (r.scopes.map rI)),.t (.sl (r.kids.map Form.row))]] Tryz.func118 rfl Tryz.ntmps118 ?_
 intro C hC
 refine zb (za ?_)
 refine zU yZ27 ?_
 refine zf (zd (zb (za ?_)))
 refine s_mv ?_
 obtain ⟨v1,V1,F1⟩:=zc F0
 refine zv [] (m_spec_ParseForm_ok fuel _ _ V1) ?_
 refine s_mv ?_
 refine za4 ?_
 refine za4 ?_
 refine zU yZ27 ?_
 refine zab yS27 ?_
 refine s_as ?_
 refine zf (zd (zb (za ?_)))
 refine zG yA27 yS27 ?_
 refine zab yS27 ?_
 refine zf (zd (zh (zn ?_)))
 cases F1
 exact zZ [] [] (by rw [Tryz.results118];exact (zas (by conv=>lhs;whnf) (by conv=>lhs;whnf) yA27 yS27 rfl zae))
def zgz (fuel:Nat):Prop:=∀ (x1:Form) (r:Form),zcd fuel x1=some r→AC Tryz.prog 163 [.ag [.t (.sc (.int .i64 x1.kind)),.t (.sc (.str x1.name)),.t (.sc (.int .i64 x1.n)),.t (.sl (x1.scopes.map rI)),.t (.sl (x1.kids.map Form.row))]] (objs []) (.ag [.t (.sc (.int .i64 r.kind)),.t (.sc (.str r.name)),.t (.sc (.int .i64 r.n)),.ar 9203,.ar 9204]) (objs [(9203,.arr (r.scopes.map rI) 3 true),(9204,.arr (r.kids.map Form.row) 27 true)])
theorem m_spec_l1Copy_st (fu:Nat) (ih_m_spec_l1Copy:∀ k,k≤fu→zgz k):zgz (fu+1):=by
 intro x1 r F0
 rw [zcd] at F0
 refine AC_i [.ag [.t (.sc (.int .i64 r.kind)),.t (.sc (.str r.name)),.t (.sc (.int .i64 r.n)),.ar 9203,.ar 9204]] Tryz.func163 rfl Tryz.ntmps163 ?_
 intro C hC
 refine zb (za ?_)
 refine zaN ?_
 refine zU yZ27 ?_
 refine zf (zd (zb ?_))
 refine zP yMix (by kernel_rfl) ?_
 refine s_fa zc1 ?_
 refine zu yA3 ?_
 refine s_fa zcp ?_
 refine zu yA9 ?_
 refine s_fa zhu ?_
 refine zu yA3 ?_
 refine s_bs rI ([]:List Int) yP24 yR3 ?_
 refine s_fa zf9 ?_
 refine zu yA24 ?_
 obtain ⟨hk1,F1⟩:=zac F0
 refine zel rI (fun _=>rfl) hk1 yP24 ?_
 refine zgE yZ27 yL27 ?_
 refine zU yZ27 ?_
 refine zab yS27 ?_
 refine zah (by kernel_rfl) ?_
 refine zd (zb (zb (za ?_)))
 refine s_as ?_
 refine zf (zd (zl ?_))
 refine awp_ownB 3 5020 27 [.t (.sc (.int .i64 x1.kind)),.t (.sc (.str x1.name)),.t (.sc (.int .i64 x1.n)),.ar 14,.ar 5020] yI27.choose_spec ?_
 refine zak [4,16,17,18,19,20,21,22,23,24,25,26,27,28,29,30,31,32,33] [3,5020] [31,32,2030,12030] [5020] (fun a:Nat × Int × (List Form)=>a.1) (fun a:Nat × Int × (List Form)=>[(4,.t (.sc (.int .i64 a.2.1)))]) (fun a:Nat × Int × (List Form)=>[(3,.box [.t (.sc (.int .i64 x1.kind)),.t (.sc (.str x1.name)),.t (.sc (.int .i64 x1.n)),.ar 14,.ar 5020]),(5020,.arr (a.2.2.map Form.row) 27 true)]) (fun a:Nat × Int × (List Form)=>a.1≤fu∧zcL a.1 x1 a.2.1 a.2.2=some r∧0≤a.2.1) (fu,0,([]:List Form)) ⟨Nat.le_refl _,F1,by simp⟩ (by rfl) (by rfl) (fun _=>rfl) (zI (by conv=>lhs;whnf) (by rfl) zaX) (zL (by conv=>lhs;whnf) (by rfl) (zL (by conv=>lhs;whnf) (by rfl) zaK)) (zbZ hC rfl) (by repeat (first | exact z6 rfl | refine zal rfl ?_ | refine zQ rfl ?_)) (by repeat (first | exact zay | exact zad rfl | refine zam rfl ?_ | refine zR rfl ?_)) ?_
 clear F1
 rintro ⟨fu,g2,g3⟩ ⟨hl4,F2,hn_g2⟩
 dsimp only at hl4 F2 hn_g2 ⊢
 obtain _ | fu:=fu
 · rw [zcL] at F2;cases F2
 rw [zcL] at F2
 refine zb (zb (za ?_))
 refine s_mv ?_
 refine s_fa zF ?_
 refine zu yA25 ?_
 refine zC yU25 ?_
 refine s_lt ?_
 refine zf (zd ?_)
 refine zm F2 ?_ ?_<;>intro C5 F3
 refine zM 18 (fun B6=>?_)
 refine zi (zd (zb (zl ?_)))
 refine zP yMix (by kernel_rfl) ?_
 refine s_fa zF ?_
 refine zu yA25 ?_
 refine s_fa zF ?_
 refine zu yA25 ?_
 refine s_mv ?_
 obtain ⟨v7,V7,F4⟩:=zc F3
 refine zK Form.row V7 (Form.row_eq _) yE25 ?_
 refine zai yA27 yS27 ?_
 obtain ⟨v8,V8,F5⟩:=zc F4
 refine z4 [(9203,2030),(9204,12030)] [] _ _ (ih_m_spec_l1Copy fu (by omega) _ _ V8) ?_
 refine s_bs Form.row [v8] yP25 yR27 ?_
 obtain ⟨hk9,F6⟩:=zac F5
 refine zel Form.row (fun y=>Form.row_len y) hk9 yP25 ?_
 refine s_fa zF ?_
 refine zii yS25 ?_
 refine zah (by kernel_rfl) ?_
 refine zW (zd (za ?_))
 refine s_mv ?_
 refine zJ (zar C5 B6 hn_g2) ?_
 refine s_as ?_
 refine zf ?_
 exact s_rn (fu,(g2+1),(g3++[v8])) ⟨by first | omega | (dsimp only;omega),F6,by first | omega | (dsimp only;omega)⟩ [(5020,32)]
 refine zz (zq (zp (zr (zd (zb (za ?_))))))
 refine zG yA27 yS27 ?_
 refine zab yS27 ?_
 refine zf (zd ?_)
 refine zeV 2 14 9203 [.t (.sc (.int .i64 x1.kind)),.t (.sc (.str x1.name)),.t (.sc (.int .i64 x1.n)),.ar 9203,.ar 5020] ?_
 refine zeV 2 5020 9204 [.t (.sc (.int .i64 x1.kind)),.t (.sc (.str x1.name)),.t (.sc (.int .i64 x1.n)),.ar 9203,.ar 9204] ?_
 refine zh (zn ?_)
 cases F3
 exact zZ _ [] (by rw [Tryz.results163];exact (zas (by conv=>lhs;whnf) (by conv=>lhs;whnf) yA27 yS27 rfl zae))
theorem m_spec_l1Copy_all (fuel:Nat):zgz fuel:=by
 induction fuel using Nat.strongRecOn with
 | _ N ih =>
   cases N with
   | zero=>exact (by intro x1 r h;rw [zcd] at h;cases h)
   | succ fu=>exact m_spec_l1Copy_st fu (fun k hk=>(ih k (by omega)))
theorem zd6 (fuel:Nat):zgz fuel:=(m_spec_l1Copy_all fuel)
def m_spec_l15Rd_num_AC (fuel:Nat):Prop:=∀ (o1:zb9) (x2:(List Int)) (r:(Int × zb9)),zaS fuel o1 x2=some r→AC Tryz.prog 176 [.rf 9000 0,.t (.sl (x2.map rI))] (objs [(9000,.box [.t (.sl (o1.b.map rB)),.t (.sc (.int .i64 o1.p))])]) (.t (.sc (.int .i64 r.1))) (objs [(9000,.box [.t (.sl (r.2.b.map rB)),.t (.sc (.int .i64 r.2.p))])])
theorem zcU (fuel:Nat):m_spec_l15Rd_num_AC fuel:=by
 intro o1 x2 r F0
 unfold zaS at F0
 refine AC_i [.t (.sc (.int .i64 r.1))] Tryz.func176 rfl Tryz.ntmps176 ?_
 intro C hC
 refine zb (za ?_)
 refine s_as ?_
 refine zf (zd (zb (za ?_)))
 iterate 3 refine s_mv ?_
 refine zC yU24 ?_
 obtain ⟨v1,V1,F1⟩:=zc F0
 refine z4 [(9000,9000)] [] _ _ (zaB fuel _ _ _ V1) ?_
 obtain ⟨v2,V2,F2⟩:=zc F1
 refine zK rI V2 rfl yE24 ?_
 refine zu yA3 ?_
 refine s_as ?_
 refine zf (zd (zh (zn ?_)))
 cases F2
 exact zk _ [] Tryz.results176
def m_spec_l15Rd_of_AC (fuel:Nat):Prop:=∀ (o1:zb9) (x2:(List ByteArray)) (r:(ByteArray × zb9)),zdU fuel o1 x2=some r→AC Tryz.prog 164 [.rf 9000 0,.t (.sl (x2.map rS))] (objs [(9000,.box [.t (.sl (o1.b.map rB)),.t (.sc (.int .i64 o1.p))])]) (.t (.sc (.str r.1))) (objs [(9000,.box [.t (.sl (r.2.b.map rB)),.t (.sc (.int .i64 r.2.p))])])
theorem zip (fuel:Nat):m_spec_l15Rd_of_AC fuel:=by
 intro o1 x2 r F0
 unfold zdU at F0
 refine AC_i [.t (.sc (.str r.1))] Tryz.func164 rfl Tryz.ntmps164 ?_
 intro C hC
 refine zb (za ?_)
 refine s_as ?_
 refine zf (zd (zb (za ?_)))
 iterate 3 refine s_mv ?_
 refine zC yU36 ?_
 obtain ⟨v1,V1,F1⟩:=zc F0
 refine z4 [(9000,9000)] [] _ _ (zaB fuel _ _ _ V1) ?_
 obtain ⟨v2,V2,F2⟩:=zc F1
 refine zK rS V2 rfl yE36 ?_
 refine zu yA9 ?_
 refine s_as ?_
 refine zf (zd (zh (zn ?_)))
 cases F2
 exact zk _ [] Tryz.results164
end Go.Abs
