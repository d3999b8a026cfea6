/- A part of the proof: what the functions that the law calls answer, as pure values. -/
import Derived.KernelRfl
import Derived.Test.YtcebadpiebamdaaGreatK403ef3ea41a7
import Derived.Test.YtcebadpiebamdaaGreatKcb072320c30c
import Derived.Test.YtcebadpiebamdaaGreatProg
set_option linter.unusedSimpArgs false
set_option linter.unusedVariables false
section
set_option linter.unusedSimpArgs false
set_option maxHeartbeats 4000000
set_option linter.unusedVariables false
namespace Go.Abs
open Go.Proofs
theorem zoU:jJ Tryz.prog 26 0=some (0,3):=by kernel_rfl
theorem zox:kG Tryz.prog 26=some 5:=by kernel_rfl
theorem zqe:kG Tryz.prog 3=some 1:=by kernel_rfl
theorem zsh:jJ Tryz.prog 26 1=some (1,9):=by kernel_rfl
theorem yS9r:kG Tryz.prog 9=some 1:=by kernel_rfl
theorem zsg:jJ Tryz.prog 26 2=some (2,3):=by kernel_rfl
theorem zsf:jJ Tryz.prog 26 3=some (3,23):=by kernel_rfl
theorem zs0:kG Tryz.prog 23=some 1:=by kernel_rfl
theorem zse:jJ Tryz.prog 26 4=some (4,24):=by kernel_rfl
theorem zsZ:kG Tryz.prog 24=some 1:=by kernel_rfl
theorem zqd:Tryz.prog.underlying 3=some (.int .i64):=by kernel_rfl
theorem yU9r:Tryz.prog.underlying 9=some .string:=by kernel_rfl
theorem zsX:Tryz.prog.underlying 23=some (.slice 3):=by kernel_rfl
theorem zsW:Tryz.prog.underlying 24=some (.slice 26):=by kernel_rfl
theorem zoS:jJ Tryz.prog 77 0=some (0,9):=by kernel_rfl
theorem zsY:kG Tryz.prog 77=some 3:=by kernel_rfl
theorem zr9:jJ Tryz.prog 77 1=some (1,23):=by kernel_rfl
theorem zr8:jJ Tryz.prog 77 2=some (2,3):=by kernel_rfl
theorem zmS:jJ Tryz.prog 103 0=some (0,26):=by kernel_rfl
theorem zrw:kG Tryz.prog 103=some 10:=by kernel_rfl
theorem zqz:jJ Tryz.prog 103 1=some (5,26):=by kernel_rfl
theorem zmR:jJ Tryz.prog 134 0=some (0,3):=by kernel_rfl
theorem zrv:kG Tryz.prog 134=some 3:=by kernel_rfl
theorem zqy:jJ Tryz.prog 134 1=some (1,24):=by kernel_rfl
theorem zqx:jJ Tryz.prog 134 2=some (2,67):=by kernel_rfl
theorem yS67r:kG Tryz.prog 67=some 1:=by kernel_rfl
theorem yU67r:Tryz.prog.underlying 67=some (.slice 103):=by kernel_rfl
theorem zoT:jJ Tryz.prog 51 0=some (0,22):=by kernel_rfl
theorem yS51r:kG Tryz.prog 51=some 5:=by kernel_rfl
theorem yS22r:kG Tryz.prog 22=some 1:=by kernel_rfl
theorem zsd:jJ Tryz.prog 51 1=some (1,49):=by kernel_rfl
theorem yS49r:kG Tryz.prog 49=some 1:=by kernel_rfl
theorem zsc:jJ Tryz.prog 51 2=some (2,3):=by kernel_rfl
theorem zsb:jJ Tryz.prog 51 3=some (3,3):=by kernel_rfl
theorem zsa:jJ Tryz.prog 51 4=some (4,3):=by kernel_rfl
theorem yU22r:Tryz.prog.underlying 22=some (.slice 77):=by kernel_rfl
theorem yU49r:Tryz.prog.underlying 49=some (.slice 134):=by kernel_rfl
theorem zbn {H:Type} {enc:TypeId × Value->H} {w:World} {base:Nat} {spare:Nat->Bool} {held:Bool}:∀ (fuel:Nat) (cs:List Value) (x:DataW H × List MemPlace),DataW.trod enc Tryz.prog w base spare held fuel 26 cs=some x->∃ f:aB,T.Cells (G0 w) f.row cs/\T.okL f.row/\cs.length=5:=by
 intro fuel;induction fuel using Nat.strongRecOn with | _ fuel ih=>?_
 intro cs x h;have hl:=zdD zoU zox h;obtain ⟨n0,y0,hn0,h0⟩:=gD zoU zqe h;obtain ⟨n1,y1,hn1,h1⟩:=gD zsh yS9r h;obtain ⟨n2,y2,hn2,h2⟩:=gD zsg zqe h;obtain ⟨n3,y3,hn3,h3⟩:=gD zsf zs0 h;obtain ⟨n4,y4,hn4,h4⟩:=gD zse zsZ h
 match cs,hl with
 | [c0,c1,c2,c3,c4],_ =>
   simp only [List.take_succ_cons,List.take_zero,List.drop_succ_cons,List.drop_zero,List.take_nil,List.drop_nil] at h0 h1 h2 h3 h4;obtain ⟨kind,e0,o0,_⟩:=zds zqd h0;obtain ⟨name,e1,o1,_⟩:=zrC yU9r h1;obtain ⟨n,e2,o2,_⟩:=zds zqd h2;obtain ⟨scopes,z3,q3,e3,o3⟩:=zoW zsX zqd zqe h3;simp only [List.cons.injEq,and_true] at q3;subst q3;obtain ⟨kids,z4,q4,e4,o4⟩:=zco aB.row (sz:=4) zsW zox (fun n cs' y hn hh=>by
    obtain ⟨f,a1,a2,_⟩:=ih n (by omega) cs' y hh;exact ⟨f,a1,aB.row_len f,a2⟩) h4
   simp only [List.cons.injEq,and_true] at q4;subst q4;exact ⟨.mk kind name n scopes kids,by rw [aB.row_mk];exact oW e0 rfl (oW e1 rfl (oW e2 rfl (tK e3 (tK e4 (zbr))))),by rw [aB.row_mk];exact nL o0 (nL o1 (nL o2 (nL o3 (nL o4 (zhe))))),rfl⟩
theorem zkR {H:Type} {enc:TypeId × Value->H} {w:World} {base:Nat} {spare:Nat->Bool} {held:Bool}:∀ (fuel:Nat) (cs:List Value) (x:DataW H × List MemPlace),DataW.trod enc Tryz.prog w base spare held fuel 77 cs=some x->∃ f:aH,T.Cells (G0 w) f.row cs/\T.okL f.row/\cs.length=3:=by
 intro fuel
 skip
 intro cs x h;have hl:=zdD zoS zsY h;obtain ⟨n0,y0,hn0,h0⟩:=gD zoS yS9r h;obtain ⟨n1,y1,hn1,h1⟩:=gD zr9 zs0 h;obtain ⟨n2,y2,hn2,h2⟩:=gD zr8 zqe h
 match cs,hl with
 | [c0,c1,c2],_ =>
   simp only [List.take_succ_cons,List.take_zero,List.drop_succ_cons,List.drop_zero,List.take_nil,List.drop_nil] at h0 h1 h2;obtain ⟨name,e0,o0,_⟩:=zrC yU9r h0;obtain ⟨scopes,z1,q1,e1,o1⟩:=zoW zsX zqd zqe h1;simp only [List.cons.injEq,and_true] at q1;subst q1;obtain ⟨id,e2,o2,_⟩:=zds zqd h2;exact ⟨.mk name scopes id,by rw [aH.row_mk];exact oW e0 rfl (tK e1 (oW e2 rfl (zbr))),by rw [aH.row_mk];exact nL o0 (nL o1 (nL o2 (zhe))),rfl⟩
theorem zkQ {H:Type} {enc:TypeId × Value->H} {w:World} {base:Nat} {spare:Nat->Bool} {held:Bool}:∀ (fuel:Nat) (cs:List Value) (x:DataW H × List MemPlace),DataW.trod enc Tryz.prog w base spare held fuel 103 cs=some x->∃ f:aI,T.Cells (G0 w) f.row cs/\T.okL f.row/\cs.length=10:=by
 intro fuel
 skip
 intro cs x h;have hl:=zdD zmS zrw h;obtain ⟨n0,y0,hn0,h0⟩:=gD zmS zox h;obtain ⟨n1,y1,hn1,h1⟩:=gD zqz zox h
 match cs,hl with
 | [c0,c1,c2,c3,c4,c5,c6,c7,c8,c9],_ =>
   simp only [List.take_succ_cons,List.take_zero,List.drop_succ_cons,List.drop_zero,List.take_nil,List.drop_nil] at h0 h1;obtain ⟨pattern,e0,o0,_⟩:=zbn _ _ _ h0;obtain ⟨pattern_kind,pattern_name,pattern_n,pattern_scopes,pattern_kids⟩:=pattern;rw [aB.row_mk] at e0 o0;obtain ⟨template,e1,o1,_⟩:=zbn _ _ _ h1;obtain ⟨template_kind,template_name,template_n,template_scopes,template_kids⟩:=template;rw [aB.row_mk] at e1 o1;exact ⟨.mk (aB.mk pattern_kind pattern_name pattern_n pattern_scopes pattern_kids) (aB.mk template_kind template_name template_n template_scopes template_kids),by rw [aI.row_mk];exact oW e0 rfl (oW e1 rfl (zbr)),by rw [aI.row_mk];exact zlW o0 (zlW o1 (zhe)),rfl⟩
theorem znN {H:Type} {enc:TypeId × Value->H} {w:World} {base:Nat} {spare:Nat->Bool} {held:Bool}:∀ (fuel:Nat) (cs:List Value) (x:DataW H × List MemPlace),DataW.trod enc Tryz.prog w base spare held fuel 134 cs=some x->∃ f:eD,T.Cells (G0 w) f.row cs/\T.okL f.row/\cs.length=3:=by
 intro fuel
 skip
 intro cs x h;have hl:=zdD zmR zrv h;obtain ⟨n0,y0,hn0,h0⟩:=gD zmR zqe h;obtain ⟨n1,y1,hn1,h1⟩:=gD zqy zsZ h;obtain ⟨n2,y2,hn2,h2⟩:=gD zqx yS67r h
 match cs,hl with
 | [c0,c1,c2],_ =>
   simp only [List.take_succ_cons,List.take_zero,List.drop_succ_cons,List.drop_zero,List.take_nil,List.drop_nil] at h0 h1 h2;obtain ⟨id,e0,o0,_⟩:=zds zqd h0;obtain ⟨literals,z1,q1,e1,o1⟩:=zco aB.row (sz:=4) zsW zox (fun n cs' y hn hh=>by
    obtain ⟨f,a1,a2,_⟩:=zbn n cs' y hh;exact ⟨f,a1,aB.row_len f,a2⟩) h1
   simp only [List.cons.injEq,and_true] at q1;subst q1;obtain ⟨rules,z2,q2,e2,o2⟩:=zco aI.row (sz:=9) yU67r zrw (fun n cs' y hn hh=>by
    obtain ⟨f,a1,a2,_⟩:=zkQ n cs' y hh;exact ⟨f,a1,aI.row_len f,a2⟩) h2
   simp only [List.cons.injEq,and_true] at q2;subst q2;exact ⟨.mk id literals rules,by rw [eD.row_mk];exact oW e0 rfl (tK e1 (tK e2 (zbr))),by rw [eD.row_mk];exact nL o0 (nL o1 (nL o2 (zhe))),rfl⟩
theorem zqb {H:Type} {enc:TypeId × Value->H} {w:World} {base:Nat} {spare:Nat->Bool} {held:Bool}:∀ (fuel:Nat) (cs:List Value) (x:DataW H × List MemPlace),DataW.trod enc Tryz.prog w base spare held fuel 51 cs=some x->∃ f:cM,T.Cells (G0 w) f.row cs/\T.okL f.row/\cs.length=5:=by
 intro fuel
 skip
 intro cs x h;have hl:=zdD zoT yS51r h;obtain ⟨n0,y0,hn0,h0⟩:=gD zoT yS22r h;obtain ⟨n1,y1,hn1,h1⟩:=gD zsd yS49r h;obtain ⟨n2,y2,hn2,h2⟩:=gD zsc zqe h;obtain ⟨n3,y3,hn3,h3⟩:=gD zsb zqe h;obtain ⟨n4,y4,hn4,h4⟩:=gD zsa zqe h
 match cs,hl with
 | [c0,c1,c2,c3,c4],_ =>
   simp only [List.take_succ_cons,List.take_zero,List.drop_succ_cons,List.drop_zero,List.take_nil,List.drop_nil] at h0 h1 h2 h3 h4;obtain ⟨binds,z0,q0,e0,o0⟩:=zco aH.row (sz:=2) yU22r zsY (fun n cs' y hn hh=>by
    obtain ⟨f,a1,a2,_⟩:=zkR n cs' y hh;exact ⟨f,a1,aH.row_len f,a2⟩) h0
   simp only [List.cons.injEq,and_true] at q0;subst q0;obtain ⟨macros,z1,q1,e1,o1⟩:=zco eD.row (sz:=2) yU49r zrv (fun n cs' y hn hh=>by
    obtain ⟨f,a1,a2,_⟩:=znN n cs' y hh;exact ⟨f,a1,eD.row_len f,a2⟩) h1
   simp only [List.cons.injEq,and_true] at q1;subst q1;obtain ⟨scope,e2,o2,_⟩:=zds zqd h2;obtain ⟨id,e3,o3,_⟩:=zds zqd h3;obtain ⟨steps,e4,o4,_⟩:=zds zqd h4;exact ⟨.mk binds macros scope id steps,by rw [cM.row_mk];exact tK e0 (tK e1 (oW e2 rfl (oW e3 rfl (oW e4 rfl (zbr))))),by rw [cM.row_mk];exact nL o0 (nL o1 (nL o2 (nL o3 (nL o4 (zhe))))),rfl⟩
end Go.Abs
end
