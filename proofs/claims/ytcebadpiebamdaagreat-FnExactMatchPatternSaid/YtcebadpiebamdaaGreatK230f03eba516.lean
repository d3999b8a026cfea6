/- A part of the proof: what the functions that the law calls answer, as pure values. -/
import Derived.KernelRfl
import Derived.Test.YtcebadpiebamdaaGreatK075984cc7243
import Derived.Test.YtcebadpiebamdaaGreatK331350bd6deb
import Derived.Test.YtcebadpiebamdaaGreatProg
set_option linter.unusedSimpArgs false
set_option linter.unusedVariables false
section
set_option linter.unusedSimpArgs false
set_option maxHeartbeats 4000000
set_option linter.unusedVariables false
namespace Go.Abs
open Go.Proofs
theorem yF26_0r:zcZ Tryz.prog 26 0=some (0,3):=by kernel_rfl
theorem yS26r:szOf Tryz.prog 26=some 5:=by kernel_rfl
theorem yS3r:szOf Tryz.prog 3=some 1:=by kernel_rfl
theorem yF26_1r:zcZ Tryz.prog 26 1=some (1,9):=by kernel_rfl
theorem yS9r:szOf Tryz.prog 9=some 1:=by kernel_rfl
theorem yF26_2r:zcZ Tryz.prog 26 2=some (2,3):=by kernel_rfl
theorem yF26_3r:zcZ Tryz.prog 26 3=some (3,23):=by kernel_rfl
theorem yS23r:szOf Tryz.prog 23=some 1:=by kernel_rfl
theorem yF26_4r:zcZ Tryz.prog 26 4=some (4,24):=by kernel_rfl
theorem yS24r:szOf Tryz.prog 24=some 1:=by kernel_rfl
theorem yU3r:Tryz.prog.underlying 3=some (.int .i64):=by kernel_rfl
theorem yU9r:Tryz.prog.underlying 9=some .string:=by kernel_rfl
theorem yU23r:Tryz.prog.underlying 23=some (.slice 3):=by kernel_rfl
theorem yU24r:Tryz.prog.underlying 24=some (.slice 26):=by kernel_rfl
theorem yF77_0r:zcZ Tryz.prog 77 0=some (0,9):=by kernel_rfl
theorem yS77r:szOf Tryz.prog 77=some 3:=by kernel_rfl
theorem yF77_1r:zcZ Tryz.prog 77 1=some (1,23):=by kernel_rfl
theorem yF77_2r:zcZ Tryz.prog 77 2=some (2,3):=by kernel_rfl
theorem yF103_0r:zcZ Tryz.prog 103 0=some (0,26):=by kernel_rfl
theorem yS103r:szOf Tryz.prog 103=some 10:=by kernel_rfl
theorem yF103_1r:zcZ Tryz.prog 103 1=some (5,26):=by kernel_rfl
theorem yF134_0r:zcZ Tryz.prog 134 0=some (0,3):=by kernel_rfl
theorem yS134r:szOf Tryz.prog 134=some 3:=by kernel_rfl
theorem yF134_1r:zcZ Tryz.prog 134 1=some (1,24):=by kernel_rfl
theorem yF134_2r:zcZ Tryz.prog 134 2=some (2,67):=by kernel_rfl
theorem yS67r:szOf Tryz.prog 67=some 1:=by kernel_rfl
theorem yU67r:Tryz.prog.underlying 67=some (.slice 103):=by kernel_rfl
theorem yF51_0r:zcZ Tryz.prog 51 0=some (0,22):=by kernel_rfl
theorem yS51r:szOf Tryz.prog 51=some 5:=by kernel_rfl
theorem yS22r:szOf Tryz.prog 22=some 1:=by kernel_rfl
theorem yF51_1r:zcZ Tryz.prog 51 1=some (1,49):=by kernel_rfl
theorem yS49r:szOf Tryz.prog 49=some 1:=by kernel_rfl
theorem yF51_2r:zcZ Tryz.prog 51 2=some (2,3):=by kernel_rfl
theorem yF51_3r:zcZ Tryz.prog 51 3=some (3,3):=by kernel_rfl
theorem yF51_4r:zcZ Tryz.prog 51 4=some (4,3):=by kernel_rfl
theorem yU22r:Tryz.prog.underlying 22=some (.slice 77):=by kernel_rfl
theorem yU49r:Tryz.prog.underlying 49=some (.slice 134):=by kernel_rfl
theorem zgZ {H:Type} {enc:TypeId × Value→H} {w:World} {base:Nat} {spare:Nat→Bool} {held:Bool}:∀ (fuel:Nat) (cs:List Value) (x:DataW H × List MemPlace),DataW.trod enc Tryz.prog w base spare held fuel 26 cs=some x→∃ f:Form,T.Cells (G0 w) f.row cs∧T.okL f.row∧cs.length=5:=by
 intro fuel
 induction fuel using Nat.strongRecOn with | _ fuel ih=>?_
 intro cs x h
 have hl:=trod_len yF26_0r yS26r h
 obtain ⟨n0,y0,hn0,h0⟩:=zbQ yF26_0r yS3r h
 obtain ⟨n1,y1,hn1,h1⟩:=zbQ yF26_1r yS9r h
 obtain ⟨n2,y2,hn2,h2⟩:=zbQ yF26_2r yS3r h
 obtain ⟨n3,y3,hn3,h3⟩:=zbQ yF26_3r yS23r h
 obtain ⟨n4,y4,hn4,h4⟩:=zbQ yF26_4r yS24r h
 match cs,hl with
 | [c0,c1,c2,c3,c4],_ =>
   simp only [List.take_succ_cons,List.take_zero,List.drop_succ_cons,List.drop_zero,List.take_nil,List.drop_nil] at h0 h1 h2 h3 h4
   obtain ⟨kind,e0,o0,_⟩:=trod_i yU3r h0
   obtain ⟨name,e1,o1,_⟩:=trod_s yU9r h1
   obtain ⟨n,e2,o2,_⟩:=trod_i yU3r h2
   obtain ⟨scopes,z3,q3,e3,o3⟩:=trod_is yU23r yU3r yS3r h3
   simp only [List.cons.injEq,and_true] at q3
   subst q3
   obtain ⟨kids,z4,q4,e4,o4⟩:=trod_l Form.row (sz:=4) yU24r yS26r (fun n cs' y hn hh=>by
    obtain ⟨f,a1,a2,_⟩:=ih n (by omega) cs' y hh
    exact ⟨f,a1,Form.row_len f,a2⟩) h4
   simp only [List.cons.injEq,and_true] at q4
   subst q4
   exact ⟨.mk kind name n scopes kids,by rw [Form.row_mk];exact zed e0 rfl (zed e1 rfl (zed e2 rfl (zfm e3 (zfm e4 (cells_nil))))),by rw [Form.row_mk];exact zdw o0 (zdw o1 (zdw o2 (zdw o3 (zdw o4 (okL_nil))))),rfl⟩
theorem read_Bind {H:Type} {enc:TypeId × Value→H} {w:World} {base:Nat} {spare:Nat→Bool} {held:Bool}:∀ (fuel:Nat) (cs:List Value) (x:DataW H × List MemPlace),DataW.trod enc Tryz.prog w base spare held fuel 77 cs=some x→∃ f:Bind,T.Cells (G0 w) f.row cs∧T.okL f.row∧cs.length=3:=by
 intro fuel
 skip
 intro cs x h
 have hl:=trod_len yF77_0r yS77r h
 obtain ⟨n0,y0,hn0,h0⟩:=zbQ yF77_0r yS9r h
 obtain ⟨n1,y1,hn1,h1⟩:=zbQ yF77_1r yS23r h
 obtain ⟨n2,y2,hn2,h2⟩:=zbQ yF77_2r yS3r h
 match cs,hl with
 | [c0,c1,c2],_ =>
   simp only [List.take_succ_cons,List.take_zero,List.drop_succ_cons,List.drop_zero,List.take_nil,List.drop_nil] at h0 h1 h2
   obtain ⟨name,e0,o0,_⟩:=trod_s yU9r h0
   obtain ⟨scopes,z1,q1,e1,o1⟩:=trod_is yU23r yU3r yS3r h1
   simp only [List.cons.injEq,and_true] at q1
   subst q1
   obtain ⟨id,e2,o2,_⟩:=trod_i yU3r h2
   exact ⟨.mk name scopes id,by rw [Bind.row_mk];exact zed e0 rfl (zfm e1 (zed e2 rfl (cells_nil))),by rw [Bind.row_mk];exact zdw o0 (zdw o1 (zdw o2 (okL_nil))),rfl⟩
theorem read_Rule {H:Type} {enc:TypeId × Value→H} {w:World} {base:Nat} {spare:Nat→Bool} {held:Bool}:∀ (fuel:Nat) (cs:List Value) (x:DataW H × List MemPlace),DataW.trod enc Tryz.prog w base spare held fuel 103 cs=some x→∃ f:Rule,T.Cells (G0 w) f.row cs∧T.okL f.row∧cs.length=10:=by
 intro fuel
 skip
 intro cs x h
 have hl:=trod_len yF103_0r yS103r h
 obtain ⟨n0,y0,hn0,h0⟩:=zbQ yF103_0r yS26r h
 obtain ⟨n1,y1,hn1,h1⟩:=zbQ yF103_1r yS26r h
 match cs,hl with
 | [c0,c1,c2,c3,c4,c5,c6,c7,c8,c9],_ =>
   simp only [List.take_succ_cons,List.take_zero,List.drop_succ_cons,List.drop_zero,List.take_nil,List.drop_nil] at h0 h1
   obtain ⟨pattern,e0,o0,_⟩:=zgZ _ _ _ h0
   obtain ⟨pattern_kind,pattern_name,pattern_n,pattern_scopes,pattern_kids⟩:=pattern
   rw [Form.row_mk] at e0 o0
   obtain ⟨template,e1,o1,_⟩:=zgZ _ _ _ h1
   obtain ⟨template_kind,template_name,template_n,template_scopes,template_kids⟩:=template
   rw [Form.row_mk] at e1 o1
   exact ⟨.mk (Form.mk pattern_kind pattern_name pattern_n pattern_scopes pattern_kids) (Form.mk template_kind template_name template_n template_scopes template_kids),by rw [Rule.row_mk];exact zed e0 rfl (zed e1 rfl (cells_nil)),by rw [Rule.row_mk];exact okL_app o0 (okL_app o1 (okL_nil)),rfl⟩
theorem read_Macro {H:Type} {enc:TypeId × Value→H} {w:World} {base:Nat} {spare:Nat→Bool} {held:Bool}:∀ (fuel:Nat) (cs:List Value) (x:DataW H × List MemPlace),DataW.trod enc Tryz.prog w base spare held fuel 134 cs=some x→∃ f:zaQ,T.Cells (G0 w) f.row cs∧T.okL f.row∧cs.length=3:=by
 intro fuel
 skip
 intro cs x h
 have hl:=trod_len yF134_0r yS134r h
 obtain ⟨n0,y0,hn0,h0⟩:=zbQ yF134_0r yS3r h
 obtain ⟨n1,y1,hn1,h1⟩:=zbQ yF134_1r yS24r h
 obtain ⟨n2,y2,hn2,h2⟩:=zbQ yF134_2r yS67r h
 match cs,hl with
 | [c0,c1,c2],_ =>
   simp only [List.take_succ_cons,List.take_zero,List.drop_succ_cons,List.drop_zero,List.take_nil,List.drop_nil] at h0 h1 h2
   obtain ⟨id,e0,o0,_⟩:=trod_i yU3r h0
   obtain ⟨literals,z1,q1,e1,o1⟩:=trod_l Form.row (sz:=4) yU24r yS26r (fun n cs' y hn hh=>by
    obtain ⟨f,a1,a2,_⟩:=zgZ n cs' y hh
    exact ⟨f,a1,Form.row_len f,a2⟩) h1
   simp only [List.cons.injEq,and_true] at q1
   subst q1
   obtain ⟨rules,z2,q2,e2,o2⟩:=trod_l Rule.row (sz:=9) yU67r yS103r (fun n cs' y hn hh=>by
    obtain ⟨f,a1,a2,_⟩:=read_Rule n cs' y hh
    exact ⟨f,a1,Rule.row_len f,a2⟩) h2
   simp only [List.cons.injEq,and_true] at q2
   subst q2
   exact ⟨.mk id literals rules,by rw [zaQ.row_mk];exact zed e0 rfl (zfm e1 (zfm e2 (cells_nil))),by rw [zaQ.row_mk];exact zdw o0 (zdw o1 (zdw o2 (okL_nil))),rfl⟩
theorem read_Expansion {H:Type} {enc:TypeId × Value→H} {w:World} {base:Nat} {spare:Nat→Bool} {held:Bool}:∀ (fuel:Nat) (cs:List Value) (x:DataW H × List MemPlace),DataW.trod enc Tryz.prog w base spare held fuel 51 cs=some x→∃ f:zae,T.Cells (G0 w) f.row cs∧T.okL f.row∧cs.length=5:=by
 intro fuel
 skip
 intro cs x h
 have hl:=trod_len yF51_0r yS51r h
 obtain ⟨n0,y0,hn0,h0⟩:=zbQ yF51_0r yS22r h
 obtain ⟨n1,y1,hn1,h1⟩:=zbQ yF51_1r yS49r h
 obtain ⟨n2,y2,hn2,h2⟩:=zbQ yF51_2r yS3r h
 obtain ⟨n3,y3,hn3,h3⟩:=zbQ yF51_3r yS3r h
 obtain ⟨n4,y4,hn4,h4⟩:=zbQ yF51_4r yS3r h
 match cs,hl with
 | [c0,c1,c2,c3,c4],_ =>
   simp only [List.take_succ_cons,List.take_zero,List.drop_succ_cons,List.drop_zero,List.take_nil,List.drop_nil] at h0 h1 h2 h3 h4
   obtain ⟨binds,z0,q0,e0,o0⟩:=trod_l Bind.row (sz:=2) yU22r yS77r (fun n cs' y hn hh=>by
    obtain ⟨f,a1,a2,_⟩:=read_Bind n cs' y hh
    exact ⟨f,a1,Bind.row_len f,a2⟩) h0
   simp only [List.cons.injEq,and_true] at q0
   subst q0
   obtain ⟨macros,z1,q1,e1,o1⟩:=trod_l zaQ.row (sz:=2) yU49r yS134r (fun n cs' y hn hh=>by
    obtain ⟨f,a1,a2,_⟩:=read_Macro n cs' y hh
    exact ⟨f,a1,zaQ.row_len f,a2⟩) h1
   simp only [List.cons.injEq,and_true] at q1
   subst q1
   obtain ⟨scope,e2,o2,_⟩:=trod_i yU3r h2
   obtain ⟨id,e3,o3,_⟩:=trod_i yU3r h3
   obtain ⟨steps,e4,o4,_⟩:=trod_i yU3r h4
   exact ⟨.mk binds macros scope id steps,by rw [zae.row_mk];exact zfm e0 (zfm e1 (zed e2 rfl (zed e3 rfl (zed e4 rfl (cells_nil))))),by rw [zae.row_mk];exact zdw o0 (zdw o1 (zdw o2 (zdw o3 (zdw o4 (okL_nil))))),rfl⟩
end Go.Abs
end
