/- A part of the proof: what the functions that the law calls answer, as pure values. -/
import Derived.Test.YtcebadpiebamdaaGreatK960b233c8b1a
import Derived.Test.YtcebadpiebamdaaGreatK006dda84d553
import Derived.Test.YtcebadpiebamdaaGreatK863b9396a6d1
set_option linter.unusedSimpArgs false
set_option linter.unusedVariables false
set_option maxRecDepth 100000
set_option maxHeartbeats 4000000
namespace Go.Abs
open Go.Proofs
def m_spec_BindsValid_AC (fuel:Nat):Prop:=∀ (x1:(List Bind)) (r:Bool),zdE fuel x1=some r→AC Tryz.prog 41 [.t (.sl (x1.map Bind.row))] noOb (.t (.sc (.bool r))) noOb
theorem m_spec_BindsValid_ok (fuel:Nat):m_spec_BindsValid_AC fuel:=by
 intro x1 r F0
 unfold zdE at F0
 refine AC_i [.t (.sc (.bool r))] Tryz.func41 rfl Tryz.ntmps41 ?_
 intro C hC
 refine zb (za ?_)
 refine s_as ?_
 refine zf (zd (zb (zb (za ?_))))
 refine s_as ?_
 refine zf (zd (zl ?_))
 refine zaE (β:=Int) [2,3,4,5,6,7,8,9,10,11,12,13,14,15,16,17,18,19,20,21,22,23,24,25,26,27,28,29,30,31,32,33,34,35,36,37,38,39,40,41,42,43,44,45,46,47,48,49,50,51,52,53,54,55,56,57,58,59,60,61,62,63,64,65,66,67,68,69,70,71,72,73,74,75] [] [] (fun a=>[(2,.t (.sc (.bool false))),(3,.t (.sc (.int .i64 a.2)))]) (fun a=>[]) (fun a=>a.1≤fuel∧zbb a.1 x1 a.2=some r) (fuel,0) ⟨Nat.le_refl _,F0⟩ ?_
 clear F0
 rintro ⟨fu,g1⟩ ⟨hl2,F1⟩
 dsimp only at hl2 F1 ⊢
 obtain _ | fu:=fu
 · rw [zbb] at F1;cases F1
 rw [zbb] at F1
 refine zb ?_
 refine zdr (α:=Nat × Bool) [5,6,7,8,9,10,11,12] [] [] (fun a=>[(12,.t (.sc (.bool a.2)))]) (fun a=>[]) (fun a=>a.1≤fu∧zbd a.1 x1 g1 a.2=some r) ?_ ?_
 refine za ?_
 refine s_mv ?_
 refine s_mv ?_
 refine zB yU33 ?_
 refine s_lt ?_
 refine s_mv ?_
 refine zx _ 9 F1 ?_ ?_<;>intro C3 F2
 refine s_mv ?_
 refine s_le ?_
 refine zC ?_
 refine zf ?_
 exact s_jn (fu,(decide (g1≤60))) ⟨by first | omega | (dsimp only;omega),F2⟩
 refine r_no rfl (r_no rfl ?_)
 refine zD ?_
 refine zf ?_
 exact s_jn (fu,false) ⟨by first | omega | (dsimp only;omega),F2⟩
 clear F1
 rintro ⟨fu,g4⟩ ⟨hl5,F2⟩
 dsimp only at hl5 F2 ⊢
 obtain _ | fu:=fu
 · rw [zbd] at F2;cases F2
 rw [zbd] at F2
 refine zn F2 ?_ ?_<;>intro C6 F3
 refine zi (zd (zb (zl (zb ?_))))
 refine zdr (α:=Nat × Bool) [15,16,17,18,19,20,21,22,23,24,25,26,27,28,29,30,31,32,33,34,35,36,37,38,39,40,41,42,43,44,45,46] [] [] (fun a=>[(46,.t (.sc (.bool a.2)))]) (fun a=>[]) (fun a=>a.1≤fu∧zaq a.1 x1 g1 a.2=some r) ?_ ?_
 refine za ?_
 refine s_mv ?_
 refine s_mv ?_
 obtain ⟨v7,V7,F4⟩:=zc F3
 refine zN Bind.row V7 (Bind.row_eq _) yE33 ?_
 refine s_fa zgX ?_
 refine zq yA9 ?_
 obtain ⟨v8,V8,F5⟩:=zc F4
 refine zy [] (zgt fu _ _ V8) ?_
 refine zbh ?_
 refine s_mv ?_
 refine zx _ 22 F5 ?_ ?_<;>intro C9 F6
 iterate 7 refine r_no rfl ?_
 refine zC ?_
 refine s_mv ?_
 iterate 6 refine r_no rfl ?_
 refine zC ?_
 refine s_mv ?_
 iterate 6 refine r_no rfl ?_
 refine zC ?_
 refine zf ?_
 exact s_jn (fu,true) ⟨by first | omega | (dsimp only;omega),F6⟩
 refine s_mv ?_
 refine s_mv ?_
 obtain ⟨v10,V10,F7⟩:=zc F6
 refine zN Bind.row V10 (Bind.row_eq _) yE33 ?_
 refine s_fa zfY ?_
 refine zq yA23 ?_
 obtain ⟨v11,V11,F8⟩:=zc F7
 refine zy [] (zgL fu _ _ V11) ?_
 refine zbh ?_
 refine zD ?_
 refine s_mv ?_
 refine zx _ 31 F8 ?_ ?_<;>intro C12 F9
 iterate 6 refine r_no rfl ?_
 refine zC ?_
 refine s_mv ?_
 iterate 6 refine r_no rfl ?_
 refine zC ?_
 refine zf ?_
 exact s_jn (fu,true) ⟨by first | omega | (dsimp only;omega),F9⟩
 refine s_mv ?_
 refine s_mv ?_
 obtain ⟨v13,V13,F10⟩:=zc F9
 refine zN Bind.row V13 (Bind.row_eq _) yE33 ?_
 refine s_fa yF83_2 ?_
 refine zq yA3 ?_
 refine s_lt ?_
 refine zD ?_
 refine s_mv ?_
 refine zx _ 39 F10 ?_ ?_<;>intro C14 F11
 iterate 6 refine r_no rfl ?_
 refine zC ?_
 refine zf ?_
 exact s_jn (fu,true) ⟨by first | omega | (dsimp only;omega),F11⟩
 refine s_mv ?_
 refine s_mv ?_
 obtain ⟨v15,V15,F12⟩:=zc F11
 refine zN Bind.row V15 (Bind.row_eq _) yE33 ?_
 refine s_fa yF83_2 ?_
 refine zq yA3 ?_
 refine s_gt ?_
 refine zD ?_
 refine zf ?_
 exact s_jn (fu,(decide (999 < v15.id))) ⟨by first | omega | (dsimp only;omega),F12⟩
 clear F3
 rintro ⟨fu,g16⟩ ⟨hl17,F4⟩
 dsimp only at hl17 F4 ⊢
 obtain _ | fu:=fu
 · rw [zaq] at F4;cases F4
 rw [zaq] at F4
 refine zn F4 ?_ ?_<;>intro C18 F5
 refine zb (za ?_)
 refine s_as ?_
 refine zf (zd (zh (zg (zj (zg (zv (zj (zg (zo ?_)))))))))
 cases F5
 exact zk [] [] Tryz.results41
 refine zi (zd (zb (za ?_)))
 refine s_as ?_
 refine zf (zd (zl ?_))
 refine zaE (β:=Int) [2,4,47,48,49,50,51,52,53,54,55,56,57,58,59,60,61,62,63,64,65,66,67,68,69,70,71,72,73,74,75] [] [] (fun a=>[(2,.t (.sc (.bool false))),(4,.t (.sc (.int .i64 a.2)))]) (fun a=>[]) (fun a=>a.1≤fu∧zba a.1 x1 g1 a.2=some r) (fu,0) ⟨Nat.le_refl _,F5⟩ ?_
 clear F5
 rintro ⟨fu,g19⟩ ⟨hl20,F6⟩
 dsimp only at hl20 F6 ⊢
 obtain _ | fu:=fu
 · rw [zba] at F6;cases F6
 rw [zba] at F6
 refine zb (zb (za ?_))
 refine s_mv ?_
 refine s_mv ?_
 refine s_lt ?_
 refine zf (zd ?_)
 refine zn F6 ?_ ?_<;>intro C21 F7
 refine zi (zd (zb (zl ?_)))
 refine zdr (α:=Nat × Bool) [52,53,54,55,56,57,58,59,60,61,62,63,64,65,66,67,68,69,70,71,72,73,74,75] [] [] (fun a=>[(75,.t (.sc (.bool a.2)))]) (fun a=>[]) (fun a=>a.1≤fu∧zbc a.1 x1 g1 g19 a.2=some r) ?_ ?_
 refine zP yMix (by kernel_rfl) ?_
 refine s_mv ?_
 refine s_mv ?_
 obtain ⟨v22,V22,F8⟩:=zc F7
 refine zN Bind.row V22 (Bind.row_eq _) yE33 ?_
 refine s_fa zgX ?_
 refine zq yA9 ?_
 refine s_mv ?_
 refine s_mv ?_
 obtain ⟨v23,V23,F9⟩:=zc F8
 refine zN Bind.row V23 (Bind.row_eq _) yE33 ?_
 refine s_fa zgX ?_
 refine zq yA9 ?_
 refine zgj ?_
 refine s_mv ?_
 refine zx _ 63 F9 ?_ ?_<;>intro C24 F10
 refine s_mv ?_
 refine s_mv ?_
 obtain ⟨v25,V25,F11⟩:=zc F10
 refine zN Bind.row V25 (Bind.row_eq _) yE33 ?_
 refine s_fa zfY ?_
 refine zq yA23 ?_
 refine s_mv ?_
 refine s_mv ?_
 obtain ⟨v26,V26,F12⟩:=zc F11
 refine zN Bind.row V26 (Bind.row_eq _) yE33 ?_
 refine s_fa zfY ?_
 refine zq yA23 ?_
 obtain ⟨v27,V27,F13⟩:=zc F12
 refine zy [] (m_spec_l1Ints_ok fu _ _ _ V27) ?_
 refine zC ?_
 refine zai (by kernel_rfl) ?_
 exact s_jn (fu,v27) ⟨by first | omega | (dsimp only;omega),F13⟩
 iterate 11 refine r_no rfl ?_
 refine zD ?_
 refine zai (by kernel_rfl) ?_
 exact s_jn (fu,false) ⟨by first | omega | (dsimp only;omega),F10⟩
 clear F7
 rintro ⟨fu,g28⟩ ⟨hl29,F8⟩
 dsimp only at hl29 F8 ⊢
 obtain _ | fu:=fu
 · rw [zbc] at F8;cases F8
 rw [zbc] at F8
 refine zn F8 ?_ ?_<;>intro C30 F9
 refine zb (za ?_)
 refine s_as ?_
 refine zf (zd (zh (zj (zg (zv (zj (zj (zg (zv (zj (zg (zo ?_))))))))))))
 cases F9
 exact zk [] [] Tryz.results41
 refine zi (zY (zd (za ?_)))
 refine s_mv ?_
 refine zE rfl ?_
 refine s_as ?_
 refine zf ?_
 exact s_rn (fu,(w64 (g19+1))) ⟨by first | omega | (dsimp only;omega),F9⟩
 refine zA (zr (zp (zu (zY (zd (za ?_))))))
 refine s_mv ?_
 refine zE rfl ?_
 refine s_as ?_
 refine zf ?_
 exact s_rn (fu,(w64 (g1+1))) ⟨by first | omega | (dsimp only;omega),F7⟩
 refine zA (zr (zp (zu (zd (zb (za ?_))))))
 refine s_mv ?_
 refine zB yU33 ?_
 refine s_le ?_
 refine s_as ?_
 refine zf (zd (zh (zo ?_)))
 cases F3
 exact zk [] [] Tryz.results41
def zfW (fuel:Nat):Prop:=∀ (x1:Form) (x2:Int) (r:Bool),zer fuel x1 x2=some r→AC Tryz.prog 86 [.ag [.t (.sc (.int .i64 x1.kind)),.t (.sc (.str x1.name)),.t (.sc (.int .i64 x1.n)),.t (.sl (x1.scopes.map rI)),.t (.sl (x1.kids.map Form.row))],.t (.sc (.int .i64 x2))] noOb (.t (.sc (.bool r))) noOb
theorem m_spec_l1Is_st (fu:Nat) (ih_m_spec_l1Is:∀ k,k≤fu→zfW k):zfW (fu+1):=by
 intro x1 x2 r F0
 rw [zer] at F0
 refine AC_i [.t (.sc (.bool r))] Tryz.func86 rfl Tryz.ntmps86 ?_
 intro C hC
 refine zb (za ?_)
 refine zbo ?_
 refine s_as ?_
 refine zf (zd (zb (zb (za ?_))))
 refine s_mv ?_
 refine s_eq ?_
 refine zf (zd ?_)
 refine zn F0 ?_ ?_<;>intro C1 F1
 refine zb (za ?_)
 refine s_as ?_
 refine zf (zd (zh (zg (zo ?_))))
 cases F1
 exact zk [] [] Tryz.results86
 refine zi (zd (zb (zb (za ?_))))
 refine s_fa zcD ?_
 refine zq yA3 ?_
 refine zf (zd (zl (zb (za ?_))))
 refine s_eq ?_
 refine s_as ?_
 refine zf (zd ?_)
 refine zn F1 ?_ ?_<;>intro C2 F2
 refine zb (za ?_)
 refine s_fa zbC ?_
 refine zq yA9 ?_
 obtain ⟨v3,V3,F3⟩:=zc F2
 refine zy [] (zgt fu _ _ V3) ?_
 refine s_mv ?_
 refine zx _ 15 F3 ?_ ?_<;>intro C4 F4
 refine s_fa zeg ?_
 refine zq yA3 ?_
 refine s_eq ?_
 refine zC ?_
 refine s_mv ?_
 refine zx _ 20 F4 ?_ ?_<;>intro C5 F5
 refine s_fa zdR ?_
 refine zq yA23 ?_
 obtain ⟨v6,V6,F6⟩:=zc F5
 refine zy [] (zgL fu _ _ V6) ?_
 refine zC ?_
 refine s_mv ?_
 refine zx _ 25 F6 ?_ ?_<;>intro C7 F7
 refine s_fa zJ ?_
 refine zq yA35 ?_
 refine zB yU35 ?_
 refine s_eq ?_
 refine zC ?_
 refine s_as ?_
 refine zf (zd (zh (zj (zg (zo ?_)))))
 cases F7
 exact zk [] [] Tryz.results86
 iterate 4 refine r_no rfl ?_
 refine zD ?_
 refine s_as ?_
 refine zf (zd (zh (zj (zg (zo ?_)))))
 cases F7
 exact zk [] [] Tryz.results86
 iterate 3 refine r_no rfl ?_
 refine zD ?_
 refine s_mv ?_
 iterate 4 refine r_no rfl ?_
 refine zD ?_
 refine s_as ?_
 refine zf (zd (zh (zj (zg (zo ?_)))))
 cases F5
 exact zk [] [] Tryz.results86
 iterate 3 refine r_no rfl ?_
 refine zD ?_
 refine s_mv ?_
 iterate 3 refine r_no rfl ?_
 refine zD ?_
 refine s_mv ?_
 iterate 4 refine r_no rfl ?_
 refine zD ?_
 refine s_as ?_
 refine zf (zd (zh (zj (zg (zo ?_)))))
 cases F4
 exact zk [] [] Tryz.results86
 refine zb (za ?_)
 refine s_eq ?_
 refine s_as ?_
 refine zf (zd ?_)
 refine zn F2 ?_ ?_<;>intro C8 F3
 refine zb (za ?_)
 refine s_fa zbC ?_
 refine zq yA9 ?_
 refine zgj ?_
 refine s_mv ?_
 refine zx _ 36 F3 ?_ ?_<;>intro C9 F4
 refine s_fa zeg ?_
 refine zq yA3 ?_
 refine s_ge ?_
 refine zC ?_
 refine s_mv ?_
 refine zx _ 41 F4 ?_ ?_<;>intro C10 F5
 refine s_fa zeg ?_
 refine zq yA3 ?_
 refine s_le ?_
 refine zC ?_
 refine s_mv ?_
 refine zx _ 46 F5 ?_ ?_<;>intro C11 F6
 refine s_fa zdR ?_
 refine zq yA23 ?_
 refine zB yU23 ?_
 refine s_eq ?_
 refine zC ?_
 refine s_mv ?_
 refine zx _ 52 F6 ?_ ?_<;>intro C12 F7
 refine s_fa zJ ?_
 refine zq yA35 ?_
 refine zB yU35 ?_
 refine s_eq ?_
 refine zC ?_
 refine s_as ?_
 refine zf (zd (zh (zj (zg (zo ?_)))))
 cases F7
 exact zk [] [] Tryz.results86
 iterate 4 refine r_no rfl ?_
 refine zD ?_
 refine s_as ?_
 refine zf (zd (zh (zj (zg (zo ?_)))))
 cases F7
 exact zk [] [] Tryz.results86
 iterate 4 refine r_no rfl ?_
 refine zD ?_
 refine s_mv ?_
 iterate 4 refine r_no rfl ?_
 refine zD ?_
 refine s_as ?_
 refine zf (zd (zh (zj (zg (zo ?_)))))
 cases F6
 exact zk [] [] Tryz.results86
 iterate 3 refine r_no rfl ?_
 refine zD ?_
 refine s_mv ?_
 iterate 4 refine r_no rfl ?_
 refine zD ?_
 refine s_mv ?_
 iterate 4 refine r_no rfl ?_
 refine zD ?_
 refine s_as ?_
 refine zf (zd (zh (zj (zg (zo ?_)))))
 cases F5
 exact zk [] [] Tryz.results86
 iterate 3 refine r_no rfl ?_
 refine zD ?_
 refine s_mv ?_
 iterate 3 refine r_no rfl ?_
 refine zD ?_
 refine s_mv ?_
 iterate 4 refine r_no rfl ?_
 refine zD ?_
 refine s_mv ?_
 iterate 4 refine r_no rfl ?_
 refine zD ?_
 refine s_as ?_
 refine zf (zd (zh (zj (zg (zo ?_)))))
 cases F4
 exact zk [] [] Tryz.results86
 refine zi (zY (zd (zb (zb (za ?_)))))
 refine s_fa zcD ?_
 refine zq yA3 ?_
 refine s_ne ?_
 refine s_mv ?_
 refine zx _ 61 F3 ?_ ?_<;>intro C13 F4
 iterate 3 refine r_no rfl ?_
 refine zC ?_
 refine s_mv ?_
 iterate 3 refine r_no rfl ?_
 refine zC ?_
 refine s_mv ?_
 iterate 4 refine r_no rfl ?_
 refine zC ?_
 refine zf (zd (zaa rfl (zb (za ?_))))
 refine s_as ?_
 refine zf (zd (zh (zg (zo ?_))))
 cases F4
 exact zk [] [] Tryz.results86
 refine s_fa zbC ?_
 refine zq yA9 ?_
 refine s_neS ?_
 refine zD ?_
 refine s_mv ?_
 refine zx _ 66 F4 ?_ ?_<;>intro C14 F5
 iterate 3 refine r_no rfl ?_
 refine zC ?_
 refine s_mv ?_
 iterate 4 refine r_no rfl ?_
 refine zC ?_
 refine zf (zd (zaa rfl (zb (za ?_))))
 refine s_as ?_
 refine zf (zd (zh (zg (zo ?_))))
 cases F5
 exact zk [] [] Tryz.results86
 refine s_fa zeg ?_
 refine zq yA3 ?_
 refine s_ne ?_
 refine zD ?_
 refine s_mv ?_
 refine zx _ 71 F5 ?_ ?_<;>intro C15 F6
 iterate 4 refine r_no rfl ?_
 refine zC ?_
 refine zf (zd (zaa rfl (zb (za ?_))))
 refine s_as ?_
 refine zf (zd (zh (zg (zo ?_))))
 cases F6
 exact zk [] [] Tryz.results86
 refine s_fa zdR ?_
 refine zq yA23 ?_
 refine zB yU23 ?_
 refine s_ne ?_
 refine zD ?_
 refine zf (zd ?_)
 refine zn F6 ?_ ?_<;>intro C16 F7
 refine zb (za ?_)
 refine s_as ?_
 refine zf (zd (zh (zg (zo ?_))))
 cases F7
 exact zk [] [] Tryz.results86
 refine zi (zd (zb (zb (za ?_))))
 refine s_as ?_
 refine zf (zd (zl ?_))
 refine zaE (β:=Int) [4,5,77,78,79,80,81,82,83,84,85,86,87,88,89,90,91,92] [] [] (fun a=>[(5,.t (.sc (.int .i64 a.2)))]) (fun a=>[]) (fun a=>a.1≤fu∧zdt a.1 x1 x2 a.2=some r∧0≤a.2) (fu,0) ⟨Nat.le_refl _,F7,by simp⟩ ?_
 clear F7
 rintro ⟨fu,g17⟩ ⟨hl18,F8,hn_g17⟩
 dsimp only at hl18 F8 hn_g17 ⊢
 obtain _ | fu:=fu
 · rw [zdt] at F8;cases F8
 rw [zdt] at F8
 refine zb (zb (za ?_))
 refine s_mv ?_
 refine s_fa zJ ?_
 refine zq yA35 ?_
 refine zB yU35 ?_
 refine s_lt ?_
 refine zf (zd ?_)
 refine zn F8 ?_ ?_<;>intro C19 F9
 refine zH 79 (fun B20=>?_)
 refine zi (zd (zb (zl (zb (za ?_)))))
 refine s_fa zJ ?_
 refine zq yA35 ?_
 refine s_mv ?_
 obtain ⟨v21,V21,F10⟩:=zc F9
 refine zN Form.row V21 (Form.row_eq _) yE35 ?_
 refine zaI yA37 yS37 ?_
 refine s_mv ?_
 refine zfZ rfl ?_
 obtain ⟨v22,V22,F11⟩:=zc F10
 refine zy [] (ih_m_spec_l1Is fu (by omega) _ _ _ V22) ?_
 refine zbh ?_
 refine zf (zd ?_)
 refine zn F11 ?_ ?_<;>intro C23 F12
 refine zb (za ?_)
 refine s_as ?_
 refine zf (zd (zh (zj (zg (zv (zj (zg (zo ?_))))))))
 cases F12
 exact zk [] [] Tryz.results86
 refine zi (zY (zd (za ?_)))
 refine s_mv ?_
 refine zE (zaF C19 B20 hn_g17) ?_
 refine s_as ?_
 refine zf ?_
 exact s_rn (fu,(g17+1)) ⟨by first | omega | (dsimp only;omega),F12,by first | omega | (dsimp only;omega)⟩
 refine zA (zr (zp (zu (zd (zb (za ?_))))))
 refine s_as ?_
 refine zf (zd (zh (zo ?_)))
 cases F9
 exact zk [] [] Tryz.results86
theorem m_spec_l1Is_all (fuel:Nat):zfW fuel:=by
 induction fuel using Nat.strongRecOn with
 | _ N ih =>
   cases N with
   | zero=>exact (by intro x1 x2 r h;rw [zer] at h;cases h)
   | succ fu=>exact m_spec_l1Is_st fu (fun k hk=>(ih k (by omega)))
theorem m_spec_l1Is_ok (fuel:Nat):zfW fuel:=(m_spec_l1Is_all fuel)
def zeF (fuel:Nat):Prop:=∀ (x1:Form) (r:Int),zdu fuel x1=some r→AC Tryz.prog 87 [.ag [.t (.sc (.int .i64 x1.kind)),.t (.sc (.str x1.name)),.t (.sc (.int .i64 x1.n)),.t (.sl (x1.scopes.map rI)),.t (.sl (x1.kids.map Form.row))]] noOb (.t (.sc (.int .i64 r))) noOb
theorem m_spec_l1Count_st (fu:Nat) (ih_m_spec_l1Count:∀ k,k≤fu→zeF k):zeF (fu+1):=by
 intro x1 r F0
 rw [zdu] at F0
 refine AC_i [.t (.sc (.int .i64 r))] Tryz.func87 rfl Tryz.ntmps87 ?_
 intro C hC
 refine zb (za ?_)
 refine zbo ?_
 refine s_as ?_
 refine zf (zd (zb (za ?_)))
 refine s_as ?_
 refine zf (zd (zb (zb (za ?_))))
 refine s_as ?_
 refine zf (zd (zl ?_))
 refine zaE (β:=Int × Int) [3,4,5,6,7,8,9,10,11,12,13,14,15,16,17,18,19] [] [] (fun a=>[(3,.t (.sc (.int .i64 a.2.1))),(4,.t (.sc (.int .i64 a.2.2)))]) (fun a=>[]) (fun a=>a.1≤fu∧zb0 a.1 x1 a.2.1 a.2.2=some r∧0≤a.2.2) (fu,1,0) ⟨Nat.le_refl _,F0,by simp⟩ ?_
 clear F0
 rintro ⟨fu,g1,g2⟩ ⟨hl3,F1,hn_g2⟩
 dsimp only at hl3 F1 hn_g2 ⊢
 obtain _ | fu:=fu
 · rw [zb0] at F1;cases F1
 rw [zb0] at F1
 refine zb (zb (za ?_))
 refine s_mv ?_
 refine s_fa zJ ?_
 refine zq yA35 ?_
 refine zB yU35 ?_
 refine s_lt ?_
 refine zf (zd ?_)
 refine zn F1 ?_ ?_<;>intro C4 F2
 refine zH 7 (fun B5=>?_)
 refine zi (zd (zb (zl (za ?_))))
 refine s_mv ?_
 refine s_fa zJ ?_
 refine zq yA35 ?_
 refine s_mv ?_
 obtain ⟨v6,V6,F3⟩:=zc F2
 refine zN Form.row V6 (Form.row_eq _) yE35 ?_
 refine zaI yA37 yS37 ?_
 obtain ⟨v7,V7,F4⟩:=zc F3
 refine zy [] (ih_m_spec_l1Count fu (by omega) _ _ V7) ?_
 refine zE rfl ?_
 refine s_as ?_
 refine zf (zY (zd (za ?_)))
 refine s_mv ?_
 refine zE (zaF C4 B5 hn_g2) ?_
 refine s_as ?_
 refine zf ?_
 exact s_rn (fu,(w64 (g1+v7)),(g2+1)) ⟨by first | omega | (dsimp only;omega),F4,by first | omega | (dsimp only;omega)⟩
 refine zA (zr (zp (zu (zd (zb (za ?_))))))
 refine s_mv ?_
 refine s_as ?_
 refine zf (zd (zh (zo ?_)))
 cases F2
 exact zk [] [] Tryz.results87
theorem m_spec_l1Count_all (fuel:Nat):zeF fuel:=by
 induction fuel using Nat.strongRecOn with
 | _ N ih =>
   cases N with
   | zero=>exact (by intro x1 r h;rw [zdu] at h;cases h)
   | succ fu=>exact m_spec_l1Count_st fu (fun k hk=>(ih k (by omega)))
theorem m_spec_l1Count_ok (fuel:Nat):zeF fuel:=(m_spec_l1Count_all fuel)
def m_spec_FormValid_AC (fuel:Nat):Prop:=∀ (x1:Form) (r:Bool),zcL fuel x1=some r→AC Tryz.prog 43 [.ag [.t (.sc (.int .i64 x1.kind)),.t (.sc (.str x1.name)),.t (.sc (.int .i64 x1.n)),.t (.sl (x1.scopes.map rI)),.t (.sl (x1.kids.map Form.row))]] noOb (.t (.sc (.bool r))) noOb
theorem zfc (fuel:Nat):m_spec_FormValid_AC fuel:=by
 intro x1 r F0
 unfold zcL at F0
 refine AC_i [.t (.sc (.bool r))] Tryz.func43 rfl Tryz.ntmps43 ?_
 intro C hC
 refine zb (za ?_)
 refine zbo ?_
 refine s_as ?_
 refine zf (zd (zb (za ?_)))
 refine z6 yA37 yS37 ?_
 obtain ⟨v1,V1,F1⟩:=zc F0
 refine zy [] (m_spec_l1Is_ok fuel _ _ _ V1) ?_
 refine s_mv ?_
 refine zx _ 5 F1 ?_ ?_<;>intro C2 F2
 refine z6 yA37 yS37 ?_
 obtain ⟨v3,V3,F3⟩:=zc F2
 refine zy [] (m_spec_l1Count_ok fuel _ _ V3) ?_
 refine s_le ?_
 refine zC ?_
 refine s_as ?_
 refine zf (zd (zh (zo ?_)))
 cases F3
 exact zk [] [] Tryz.results43
 iterate 3 refine r_no rfl ?_
 refine zD ?_
 refine s_as ?_
 refine zf (zd (zh (zo ?_)))
 cases F2
 exact zk [] [] Tryz.results43
def m_spec_l3Is_AC (fuel:Nat):Prop:=∀ (x1:Form) (r:Bool),zgs fuel x1=some r→AC Tryz.prog 126 [.ag [.t (.sc (.int .i64 x1.kind)),.t (.sc (.str x1.name)),.t (.sc (.int .i64 x1.n)),.t (.sl (x1.scopes.map rI)),.t (.sl (x1.kids.map Form.row))]] noOb (.t (.sc (.bool r))) noOb
theorem m_spec_l3Is_ok (fuel:Nat):m_spec_l3Is_AC fuel:=by
 intro x1 r F0
 unfold zgs at F0
 refine AC_i [.t (.sc (.bool r))] Tryz.func126 rfl Tryz.ntmps126 ?_
 intro C hC
 refine zb (za ?_)
 refine zbo ?_
 refine s_as ?_
 refine zf (zd (zb (za ?_)))
 refine s_fa zcD ?_
 refine zq yA3 ?_
 refine s_eq ?_
 refine s_mv ?_
 refine zx _ 6 F0 ?_ ?_<;>intro C1 F1
 refine z6 yA37 yS37 ?_
 obtain ⟨v2,V2,F2⟩:=zc F1
 refine zy [] (zfc fuel _ _ V2) ?_
 refine zC ?_
 refine s_as ?_
 refine zf (zd (zh (zo ?_)))
 cases F2
 exact zk [] [] Tryz.results126
 refine r_no rfl (r_no rfl ?_)
 refine zD ?_
 refine s_as ?_
 refine zf (zd (zh (zo ?_)))
 cases F1
 exact zk [] [] Tryz.results126
def zei (fuel:Nat):Prop:=∀ (x1:Form) (x2:Form) (r:Bool),zbR fuel x1 x2=some r→AC Tryz.prog 89 [.ag [.t (.sc (.int .i64 x1.kind)),.t (.sc (.str x1.name)),.t (.sc (.int .i64 x1.n)),.t (.sl (x1.scopes.map rI)),.t (.sl (x1.kids.map Form.row))],.ag [.t (.sc (.int .i64 x2.kind)),.t (.sc (.str x2.name)),.t (.sc (.int .i64 x2.n)),.t (.sl (x2.scopes.map rI)),.t (.sl (x2.kids.map Form.row))]] noOb (.t (.sc (.bool r))) noOb
theorem m_spec_FormSame_st (fu:Nat) (ih_m_spec_FormSame:∀ k,k≤fu→zei k):zei (fu+1):=by
 intro x1 x2 r F0
 rw [zbR] at F0
 refine AC_i [.t (.sc (.bool r))] Tryz.func89 rfl Tryz.ntmps89 ?_
 intro C hC
 refine zb (za ?_)
 refine zbo ?_
 refine zbo ?_
 refine s_as ?_
 refine zf (zd (zb (zb (za ?_))))
 refine s_fa zcD ?_
 refine zq yA3 ?_
 refine s_fa zcD ?_
 refine zq yA3 ?_
 refine s_ne ?_
 refine s_mv ?_
 refine zx _ 11 F0 ?_ ?_<;>intro C1 F1
 iterate 5 refine r_no rfl ?_
 refine zC ?_
 refine s_mv ?_
 iterate 5 refine r_no rfl ?_
 refine zC ?_
 refine s_mv ?_
 iterate 6 refine r_no rfl ?_
 refine zC ?_
 refine s_mv ?_
 iterate 7 refine r_no rfl ?_
 refine zC ?_
 refine zf (zd (zaa rfl (zb (za ?_))))
 refine s_as ?_
 refine zf (zd (zh (zg (zo ?_))))
 cases F1
 exact zk [] [] Tryz.results89
 refine s_fa zbC ?_
 refine zq yA9 ?_
 refine s_fa zbC ?_
 refine zq yA9 ?_
 refine s_neS ?_
 refine zD ?_
 refine s_mv ?_
 refine zx _ 18 F1 ?_ ?_<;>intro C2 F2
 iterate 5 refine r_no rfl ?_
 refine zC ?_
 refine s_mv ?_
 iterate 6 refine r_no rfl ?_
 refine zC ?_
 refine s_mv ?_
 iterate 7 refine r_no rfl ?_
 refine zC ?_
 refine zf (zd (zaa rfl (zb (za ?_))))
 refine s_as ?_
 refine zf (zd (zh (zg (zo ?_))))
 cases F2
 exact zk [] [] Tryz.results89
 refine s_fa zeg ?_
 refine zq yA3 ?_
 refine s_fa zeg ?_
 refine zq yA3 ?_
 refine s_ne ?_
 refine zD ?_
 refine s_mv ?_
 refine zx _ 25 F2 ?_ ?_<;>intro C3 F3
 iterate 6 refine r_no rfl ?_
 refine zC ?_
 refine s_mv ?_
 iterate 7 refine r_no rfl ?_
 refine zC ?_
 refine zf (zd (zaa rfl (zb (za ?_))))
 refine s_as ?_
 refine zf (zd (zh (zg (zo ?_))))
 cases F3
 exact zk [] [] Tryz.results89
 refine s_fa zdR ?_
 refine zq yA23 ?_
 refine s_fa zdR ?_
 refine zq yA23 ?_
 obtain ⟨v4,V4,F4⟩:=zc F3
 refine zy [] (m_spec_l1Ints_ok fu _ _ _ V4) ?_
 refine zbh ?_
 refine zD ?_
 refine s_mv ?_
 refine zx _ 33 F4 ?_ ?_<;>intro C5 F5
 iterate 7 refine r_no rfl ?_
 refine zC ?_
 refine zf (zd (zaa rfl (zb (za ?_))))
 refine s_as ?_
 refine zf (zd (zh (zg (zo ?_))))
 cases F5
 exact zk [] [] Tryz.results89
 refine s_fa zJ ?_
 refine zq yA35 ?_
 refine zB yU35 ?_
 refine s_fa zJ ?_
 refine zq yA35 ?_
 refine zB yU35 ?_
 refine s_ne ?_
 refine zD ?_
 refine zf (zd ?_)
 refine zn F5 ?_ ?_<;>intro C6 F6
 refine zb (za ?_)
 refine s_as ?_
 refine zf (zd (zh (zg (zo ?_))))
 cases F6
 exact zk [] [] Tryz.results89
 refine zi (zd (zb (zb (za ?_))))
 refine s_as ?_
 refine zf (zd (zl ?_))
 refine zaE (β:=Int) [4,5,42,43,44,45,46,47,48,49,50,51,52,53,54,55,56,57,58,59,60] [] [] (fun a=>[(5,.t (.sc (.int .i64 a.2)))]) (fun a=>[]) (fun a=>a.1≤fu∧zb3 a.1 x1 x2 a.2=some r∧0≤a.2) (fu,0) ⟨Nat.le_refl _,F6,by simp⟩ ?_
 clear F6
 rintro ⟨fu,g7⟩ ⟨hl8,F7,hn_g7⟩
 dsimp only at hl8 F7 hn_g7 ⊢
 obtain _ | fu:=fu
 · rw [zb3] at F7;cases F7
 rw [zb3] at F7
 refine zb (zb (za ?_))
 refine s_mv ?_
 refine s_fa zJ ?_
 refine zq yA35 ?_
 refine zB yU35 ?_
 refine s_lt ?_
 refine zf (zd ?_)
 refine zn F7 ?_ ?_<;>intro C9 F8
 refine zH 35 (fun B10=>?_)
 refine zi (zd (zb (zl (zb ?_))))
 refine zP yMix (by kernel_rfl) ?_
 refine s_fa zJ ?_
 refine zq yA35 ?_
 refine s_mv ?_
 obtain ⟨v11,V11,F9⟩:=zc F8
 refine zN Form.row V11 (Form.row_eq _) yE35 ?_
 refine zaI yA37 yS37 ?_
 refine s_fa zJ ?_
 refine zq yA35 ?_
 refine s_mv ?_
 obtain ⟨v12,V12,F10⟩:=zc F9
 refine zN Form.row V12 (Form.row_eq _) yE35 ?_
 refine zaI yA37 yS37 ?_
 obtain ⟨v13,V13,F11⟩:=zc F10
 refine zy [] (ih_m_spec_FormSame fu (by omega) _ _ _ V13) ?_
 refine zbh ?_
 refine zai (by kernel_rfl) ?_
 refine zd ?_
 refine zn F11 ?_ ?_<;>intro C14 F12
 refine zb (za ?_)
 refine s_as ?_
 refine zf (zd (zh (zj (zg (zv (zj (zg (zo ?_))))))))
 cases F12
 exact zk [] [] Tryz.results89
 refine zi (zY (zd (za ?_)))
 refine s_mv ?_
 refine zE (zaF C9 B10 hn_g7) ?_
 refine s_as ?_
 refine zf ?_
 exact s_rn (fu,(g7+1)) ⟨by first | omega | (dsimp only;omega),F12,by first | omega | (dsimp only;omega)⟩
 refine zA (zr (zp (zu (zd (zb (za ?_))))))
 refine s_as ?_
 refine zf (zd (zh (zo ?_)))
 cases F8
 exact zk [] [] Tryz.results89
theorem m_spec_FormSame_all (fuel:Nat):zei fuel:=by
 induction fuel using Nat.strongRecOn with
 | _ N ih =>
   cases N with
   | zero=>exact (by intro x1 x2 r h;rw [zbR] at h;cases h)
   | succ fu=>exact m_spec_FormSame_st fu (fun k hk=>(ih k (by omega)))
theorem zgM (fuel:Nat):zei fuel:=(m_spec_FormSame_all fuel)
def m_spec_l4In_AC (fuel:Nat):Prop:=∀ (x1:(List Form)) (x2:Form) (r:Bool),zep fuel x1 x2=some r→AC Tryz.prog 84 [.t (.sl (x1.map Form.row)),.ag [.t (.sc (.int .i64 x2.kind)),.t (.sc (.str x2.name)),.t (.sc (.int .i64 x2.n)),.t (.sl (x2.scopes.map rI)),.t (.sl (x2.kids.map Form.row))]] noOb (.t (.sc (.bool r))) noOb
theorem zfV (fuel:Nat):m_spec_l4In_AC fuel:=by
 intro x1 x2 r F0
 unfold zep at F0
 refine AC_i [.t (.sc (.bool r))] Tryz.func84 rfl Tryz.ntmps84 ?_
 intro C hC
 refine zb (za ?_)
 refine zbo ?_
 refine s_as ?_
 refine zf (zd (zb (zb (za ?_))))
 refine s_as ?_
 refine zf (zd (zl ?_))
 refine zaE (β:=Int) [4,5,6,7,8,9,10,11,12,13,14,15,16,17] [] [] (fun a=>[(5,.t (.sc (.int .i64 a.2)))]) (fun a=>[]) (fun a=>a.1≤fuel∧zcX a.1 x1 x2 a.2=some r∧0≤a.2) (fuel,0) ⟨Nat.le_refl _,F0,by simp⟩ ?_
 clear F0
 rintro ⟨fu,g1⟩ ⟨hl2,F1,hn_g1⟩
 dsimp only at hl2 F1 hn_g1 ⊢
 obtain _ | fu:=fu
 · rw [zcX] at F1;cases F1
 rw [zcX] at F1
 refine zb (zb (za ?_))
 refine s_mv ?_
 refine s_mv ?_
 refine zB yU35 ?_
 refine s_lt ?_
 refine zf (zd ?_)
 refine zn F1 ?_ ?_<;>intro C3 F2
 refine zH 0 (fun B4=>?_)
 refine zi (zd (zb (zl (zb ?_))))
 refine zP yMix (by kernel_rfl) ?_
 refine s_mv ?_
 refine s_mv ?_
 obtain ⟨v5,V5,F3⟩:=zc F2
 refine zN Form.row V5 (Form.row_eq _) yE35 ?_
 refine zaI yA37 yS37 ?_
 refine z6 yA37 yS37 ?_
 obtain ⟨v6,V6,F4⟩:=zc F3
 refine zy [] (zgM fu _ _ _ V6) ?_
 refine zai (by kernel_rfl) ?_
 refine zd ?_
 refine zn F4 ?_ ?_<;>intro C7 F5
 refine zb (za ?_)
 refine s_as ?_
 refine zf (zd (zh (zj (zg (zv (zj (zg (zo ?_))))))))
 cases F5
 exact zk [] [] Tryz.results84
 refine zi (zY (zd (za ?_)))
 refine s_mv ?_
 refine zE (zaF C3 B4 hn_g1) ?_
 refine s_as ?_
 refine zf ?_
 exact s_rn (fu,(g1+1)) ⟨by first | omega | (dsimp only;omega),F5,by first | omega | (dsimp only;omega)⟩
 refine zA (zr (zp (zu (zd (zb (za ?_))))))
 refine s_as ?_
 refine zf (zd (zh (zo ?_)))
 cases F2
 exact zk [] [] Tryz.results84
def m_spec_l4Literals_AC (fuel:Nat):Prop:=∀ (x1:(List Form)) (r:Bool),zdC fuel x1=some r→AC Tryz.prog 81 [.t (.sl (x1.map Form.row))] noOb (.t (.sc (.bool r))) noOb
theorem m_spec_l4Literals_ok (fuel:Nat):m_spec_l4Literals_AC fuel:=by
 intro x1 r F0
 unfold zdC at F0
 refine AC_i [.t (.sc (.bool r))] Tryz.func81 rfl Tryz.ntmps81 ?_
 intro C hC
 refine zb (za ?_)
 refine s_as ?_
 refine zf (zd (zb (zb (za ?_))))
 refine s_as ?_
 refine zf (zd (zl ?_))
 refine zaE (β:=Int) [2,3,4,5,6,7,8,9,10,11,12,13,14,15,16,17,18,19,20,21,22,23,24,25,26,27,28,29,30,31,32,33,34,35,36,37,38,39,40,41,42,43,44,45] [] [] (fun a=>[(3,.t (.sc (.int .i64 a.2)))]) (fun a=>[]) (fun a=>a.1≤fuel∧za9 a.1 x1 a.2=some r) (fuel,0) ⟨Nat.le_refl _,F0⟩ ?_
 clear F0
 rintro ⟨fu,g1⟩ ⟨hl2,F1⟩
 dsimp only at hl2 F1 ⊢
 obtain _ | fu:=fu
 · rw [za9] at F1;cases F1
 rw [za9] at F1
 refine zb (zb (za ?_))
 refine s_mv ?_
 refine s_mv ?_
 refine zB yU35 ?_
 refine s_lt ?_
 refine s_mv ?_
 refine zx _ 8 F1 ?_ ?_<;>intro C3 F2
 refine s_mv ?_
 refine s_lt ?_
 refine zC ?_
 refine zf (zd ?_)
 refine zn F2 ?_ ?_<;>intro C4 F3
 refine zi (zd (zb (zl (zb ?_))))
 refine zP yMix (by kernel_rfl) ?_
 refine s_mv ?_
 refine s_mv ?_
 obtain ⟨v5,V5,F4⟩:=zc F3
 refine zN Form.row V5 (Form.row_eq _) yE35 ?_
 refine zaI yA37 yS37 ?_
 obtain ⟨v6,V6,F5⟩:=zc F4
 refine zy [] (m_spec_l3Is_ok fu _ _ V6) ?_
 refine zbh ?_
 refine s_mv ?_
 refine zx _ 20 F5 ?_ ?_<;>intro C7 F6
 iterate 6 refine r_no rfl ?_
 refine zC ?_
 refine s_mv ?_
 iterate 6 refine r_no rfl ?_
 refine zC ?_
 refine s_mv ?_
 iterate 8 refine r_no rfl ?_
 refine zC ?_
 refine zai (by kernel_rfl) ?_
 refine zd (zaa rfl (zb (za ?_)))
 refine s_as ?_
 refine zf (zd (zh (zj (zg (zv (zj (zg (zo ?_))))))))
 cases F6
 exact zk [] [] Tryz.results81
 refine s_mv ?_
 refine s_mv ?_
 obtain ⟨v8,V8,F7⟩:=zc F6
 refine zN Form.row V8 (Form.row_eq _) yE35 ?_
 refine s_fa zbC ?_
 refine zq yA9 ?_
 refine zgj ?_
 refine zD ?_
 refine s_mv ?_
 refine zx _ 28 F7 ?_ ?_<;>intro C9 F8
 iterate 6 refine r_no rfl ?_
 refine zC ?_
 refine s_mv ?_
 iterate 8 refine r_no rfl ?_
 refine zC ?_
 refine zai (by kernel_rfl) ?_
 refine zd (zaa rfl (zb (za ?_)))
 refine s_as ?_
 refine zf (zd (zh (zj (zg (zv (zj (zg (zo ?_))))))))
 cases F8
 exact zk [] [] Tryz.results81
 refine s_mv ?_
 refine s_mv ?_
 obtain ⟨v10,V10,F9⟩:=zc F8
 refine zN Form.row V10 (Form.row_eq _) yE35 ?_
 refine s_fa zbC ?_
 refine zq yA9 ?_
 refine zgj ?_
 refine zD ?_
 refine s_mv ?_
 refine zx _ 36 F9 ?_ ?_<;>intro C11 F10
 iterate 8 refine r_no rfl ?_
 refine zC ?_
 refine zai (by kernel_rfl) ?_
 refine zd (zaa rfl (zb (za ?_)))
 refine s_as ?_
 refine zf (zd (zh (zj (zg (zv (zj (zg (zo ?_))))))))
 cases F10
 exact zk [] [] Tryz.results81
 refine s_mv ?_
 refine s_mv ?_
 obtain ⟨v12,V12,F11⟩:=zc F10
 refine s_sl01 Form.row (fun y=>Form.row_len y) V12 yU35 yE35 ?_
 refine s_mv ?_
 refine s_mv ?_
 obtain ⟨v13,V13,F12⟩:=zc F11
 refine zN Form.row V13 (Form.row_eq _) yE35 ?_
 refine zaI yA37 yS37 ?_
 obtain ⟨v14,V14,F13⟩:=zc F12
 refine zy [] (zfV fu _ _ _ V14) ?_
 refine zD ?_
 refine zai (by kernel_rfl) ?_
 refine zd ?_
 refine zn F13 ?_ ?_<;>intro C15 F14
 refine zb (za ?_)
 refine s_as ?_
 refine zf (zd (zh (zj (zg (zv (zj (zg (zo ?_))))))))
 cases F14
 exact zk [] [] Tryz.results81
 refine zi (zY (zd (za ?_)))
 refine s_mv ?_
 refine zE rfl ?_
 refine s_as ?_
 refine zf ?_
 exact s_rn (fu,(w64 (g1+1))) ⟨by first | omega | (dsimp only;omega),F14⟩
 refine zA (zr (zp (zu (zd (zb (za ?_))))))
 refine s_mv ?_
 refine zB yU35 ?_
 refine s_lt ?_
 refine s_as ?_
 refine zf (zd (zh (zo ?_)))
 cases F3
 exact zk [] [] Tryz.results81
 refine r_no rfl (r_no rfl ?_)
 refine zD ?_
 refine zf (zd (zcC rfl (zA (zr (zp (zu (zd (zb (za ?_)))))))))
 refine s_mv ?_
 refine zB yU35 ?_
 refine s_lt ?_
 refine s_as ?_
 refine zf (zd (zh (zo ?_)))
 cases F2
 exact zk [] [] Tryz.results81
def m_spec_l4Dots_AC (fuel:Nat):Prop:=∀ (x1:Form) (r:Bool),zcs fuel x1=some r→AC Tryz.prog 119 [.ag [.t (.sc (.int .i64 x1.kind)),.t (.sc (.str x1.name)),.t (.sc (.int .i64 x1.n)),.t (.sl (x1.scopes.map rI)),.t (.sl (x1.kids.map Form.row))]] noOb (.t (.sc (.bool r))) noOb
theorem zcG (fuel:Nat):m_spec_l4Dots_AC fuel:=by
 intro x1 r F0
 unfold zcs at F0
 refine AC_i [.t (.sc (.bool r))] Tryz.func119 rfl Tryz.ntmps119 ?_
 intro C hC
 refine zb (za ?_)
 refine zbo ?_
 refine s_as ?_
 refine zf (zd (zb (za ?_)))
 refine s_fa zcD ?_
 refine zq yA3 ?_
 refine s_eq ?_
 refine s_mv ?_
 refine zx _ 6 F0 ?_ ?_<;>intro C1 F1
 refine s_fa zbC ?_
 refine zq yA9 ?_
 refine zgj ?_
 refine zC ?_
 refine s_as ?_
 refine zf (zd (zh (zo ?_)))
 cases F1
 exact zk [] [] Tryz.results119
 iterate 3 refine r_no rfl ?_
 refine zD ?_
 refine s_as ?_
 refine zf (zd (zh (zo ?_)))
 cases F1
 exact zk [] [] Tryz.results119
def zeB (fuel:Nat):Prop:=∀ (x1:Form) (r:Bool),zds fuel x1=some r→AC Tryz.prog 82 [.ag [.t (.sc (.int .i64 x1.kind)),.t (.sc (.str x1.name)),.t (.sc (.int .i64 x1.n)),.t (.sl (x1.scopes.map rI)),.t (.sl (x1.kids.map Form.row))]] noOb (.t (.sc (.bool r))) noOb
theorem m_spec_l4Shape_st (fu:Nat) (ih_m_spec_l4Shape:∀ k,k≤fu→zeB k):zeB (fu+1):=by
 intro x1 r F0
 rw [zds] at F0
 refine AC_i [.t (.sc (.bool r))] Tryz.func82 rfl Tryz.ntmps82 ?_
 intro C hC
 refine zb (za ?_)
 refine zbo ?_
 refine s_as ?_
 refine zf (zd (zb (zb (za ?_))))
 refine z6 yA37 yS37 ?_
 obtain ⟨v1,V1,F1⟩:=zc F0
 refine zy [] (zcG fu _ _ V1) ?_
 refine zf (zd ?_)
 refine zn F1 ?_ ?_<;>intro C2 F2
 refine zb (za ?_)
 refine s_as ?_
 refine zf (zd (zh (zg (zo ?_))))
 cases F2
 exact zk [] [] Tryz.results82
 refine zi (zd (zb (za ?_)))
 refine s_as ?_
 refine zf (zd (zb (zb (za ?_))))
 refine s_as ?_
 refine zf (zd (zl ?_))
 refine zaE (β:=Int × Int) [2,3,4,7,8,9,10,11,12,13,14,15,16,17,18,19,20,21,22,23,24,25,26,27,28,29,30,31,32,33,34,35,36,37,38,39] [] [] (fun a=>[(3,.t (.sc (.int .i64 a.2.1))),(4,.t (.sc (.int .i64 a.2.2)))]) (fun a=>[]) (fun a=>a.1≤fu∧zbE a.1 x1 a.2.1 a.2.2=some r∧0≤a.2.2) (fu,0,0) ⟨Nat.le_refl _,F2,by simp⟩ ?_
 clear F2
 rintro ⟨fu,g3,g4⟩ ⟨hl5,F3,hn_g4⟩
 dsimp only at hl5 F3 hn_g4 ⊢
 obtain _ | fu:=fu
 · rw [zbE] at F3;cases F3
 rw [zbE] at F3
 refine zb (zb (za ?_))
 refine s_mv ?_
 refine s_fa zJ ?_
 refine zq yA35 ?_
 refine zB yU35 ?_
 refine s_lt ?_
 refine zf (zd ?_)
 refine zn F3 ?_ ?_<;>intro C6 F4
 refine zH 9 (fun B7=>?_)
 refine zi (zd (zb (zl (zb (zb (za ?_))))))
 refine s_fa zJ ?_
 refine zq yA35 ?_
 refine s_mv ?_
 obtain ⟨v8,V8,F5⟩:=zc F4
 refine zN Form.row V8 (Form.row_eq _) yE35 ?_
 refine zaI yA37 yS37 ?_
 obtain ⟨v9,V9,F6⟩:=zc F5
 refine zy [] (zcG fu _ _ V9) ?_
 refine zf (zd ?_)
 refine zn F6 ?_ ?_<;>intro C10 F7
 refine zb (za ?_)
 refine s_mv ?_
 refine zE rfl ?_
 refine s_as ?_
 refine zf (zd (zb (zb (za ?_))))
 refine s_mv ?_
 refine s_eq ?_
 refine s_mv ?_
 refine zx _ 24 F7 ?_ ?_<;>intro C11 F8
 iterate 7 refine r_no rfl ?_
 refine zC ?_
 refine zf (zd (zaa rfl (zb (za ?_))))
 refine s_as ?_
 refine zf (zd (zh (zg (zg (zj (zg (zv (zj (zg (zo ?_))))))))))
 cases F8
 exact zk [] [] Tryz.results82
 refine s_fa zJ ?_
 refine zq yA35 ?_
 refine s_mv ?_
 refine zfZ rfl ?_
 obtain ⟨v12,V12,F9⟩:=zc F8
 refine zN Form.row V12 (Form.row_eq _) yE35 ?_
 refine zaI yA37 yS37 ?_
 obtain ⟨v13,V13,F10⟩:=zc F9
 refine zy [] (zcG fu _ _ V13) ?_
 refine zD ?_
 refine zf (zd ?_)
 refine zn F10 ?_ ?_<;>intro C14 F11
 refine zb (za ?_)
 refine s_as ?_
 refine zf (zd (zh (zg (zg (zj (zg (zv (zj (zg (zo ?_))))))))))
 cases F11
 exact zk [] [] Tryz.results82
 refine zi (zd (zA (zr (zu (zd (za ?_))))))
 refine s_mv ?_
 refine zE (zaF C6 B7 hn_g4) ?_
 refine s_as ?_
 refine zf ?_
 exact s_rn (fu,(w64 (g3+1)),(g4+1)) ⟨by first | omega | (dsimp only;omega),F11,by first | omega | (dsimp only;omega)⟩
 refine zi (zd (zb (za ?_)))
 refine s_fa zJ ?_
 refine zq yA35 ?_
 refine s_mv ?_
 obtain ⟨v15,V15,F8⟩:=zc F7
 refine zN Form.row V15 (Form.row_eq _) yE35 ?_
 refine zaI yA37 yS37 ?_
 obtain ⟨v16,V16,F9⟩:=zc F8
 refine zy [] (ih_m_spec_l4Shape fu (by omega) _ _ V16) ?_
 refine zbh ?_
 refine zf (zd ?_)
 refine zn F9 ?_ ?_<;>intro C17 F10
 refine zb (za ?_)
 refine s_as ?_
 refine zf (zd (zh (zj (zg (zv (zj (zg (zo ?_))))))))
 cases F10
 exact zk [] [] Tryz.results82
 refine zi (zY (zd (za ?_)))
 refine s_mv ?_
 refine zE (zaF C6 B7 hn_g4) ?_
 refine s_as ?_
 refine zf ?_
 exact s_rn (fu,g3,(g4+1)) ⟨by first | omega | (dsimp only;omega),F10,by first | omega | (dsimp only;omega)⟩
 refine zA (zr (zp (zu (zd (zb (za ?_))))))
 refine s_mv ?_
 refine s_le ?_
 refine s_as ?_
 refine zf (zd (zh (zo ?_)))
 cases F4
 exact zk [] [] Tryz.results82
end Go.Abs
