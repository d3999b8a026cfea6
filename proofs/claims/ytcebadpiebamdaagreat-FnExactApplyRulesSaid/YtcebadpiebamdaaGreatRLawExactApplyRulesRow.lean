/- For every input, the law FnExactApplyRules of the given program returns true, and its arguments read afterwards as they read before. Conditions: none beyond those of the given row. -/
import Derived.Test.YtcebadpiebamdaaGreatRows
import Derived.Test.YtcebadpiebamdaaGreatK12b9234ba8fc
import Derived.Test.YtcebadpiebamdaaGreatK2177a0efe27c
import Derived.KernelRfl
set_option linter.unusedSimpArgs false
set_option linter.unusedVariables false
namespace Go.Proofs.YtcebadpiebamdaaGreat.fnExactApplyRules
open Go.ChangeShapes Go.WideShapes Go.ChangeAt Go.RowKit
open Go.ChangeMaps (open_string shut_string)
open Go.Abs
set_option linter.unusedVariables false
theorem yU22:Tryz.prog.underlying 22=some (.slice 77):=by kernel_rfl
theorem yS77:kG Tryz.prog 77=some 3:=by kernel_rfl
theorem yU67:Tryz.prog.underlying 67=some (.slice 103):=by kernel_rfl
theorem yS103:kG Tryz.prog 103=some 10:=by kernel_rfl
theorem yU24:Tryz.prog.underlying 24=some (.slice 26):=by kernel_rfl
theorem yS26:kG Tryz.prog 26=some 5:=by kernel_rfl
theorem yA26:n9 Tryz.prog 26=some true:=by kernel_rfl
theorem yU4:Tryz.prog.underlying 4=some .bool:=by kernel_rfl
theorem own:ownKnob Tryz.prog.godebug=none:=by kernel_rfl
theorem laidOut:laidOutB Tryz.prog=true:=by kernel_rfl
set_option maxRecDepth 100000 in
theorem lifted (os:Os) (started:os.Started) (H:Type) (enc:TypeId × Value->H) :
  ReturnsInHanded {} Tryz.checked os 5 .any (Rows.fnExactApplyRulesSpec.pre6 enc Tryz.prog Tryz.f5 Rows.fnExactApplyRulesRow.domain false) (Rows.fnExactApplyRulesSpec.post enc Tryz.prog Tryz.f5 false true false false):=by
 refine returnsInHanded_of_change_sized (C:=Tryz.checked) own started (by kernel_rfl) Tryz.func5
  (ChangeSpec.witness6 (enc:=enc) (C:=Tryz.checked) false ⟨#[],#[.slice none 0 0,.slice none 0 0,.slice none 0 0,.agg #[.int .i64 0,.string ByteArray.empty,.int .i64 0,.slice none 0 0,.slice none 0 0]],[]⟩ 8 (by kernel_rfl) (by kernel_rfl) (by kernel_rfl) (by kernel_rfl)) ?_
 intro W base args ds gs before hval0 hW hcnd hsz0 _;have hsz:(DataW.weightsEach Tryz.prog (Tryz.f5.params.toList++Rows.fnExactApplyRulesSpec.plain.varTypes Tryz.prog) (ds++gs)).all (·<=reachBytes)=true:=hsz0;have hval:∀ (j:Nat) t v,Tryz.f5.params[j]?=some t->args[j]?=some v->Value.okWide Tryz.prog W .any base t v:=hval0;have hW':=hW;obtain ⟨p,q,hA0,hV,rfl,hfz,hnd⟩:=hW;have hA:DataW.TrodAll enc Tryz.prog W 0 (fun _=>true) true Tryz.f5.params.toList args.toList ds p:=hA0;rw [Tryz.params5] at hA hval hsz;obtain ⟨v0,vs0,d0,ds0,p0,q0,hargs,rfl,rfl,h0,r0⟩:=trodAll_cons hA;obtain ⟨v1,vs1,d1,ds1,p1,q1,rfl,rfl,rfl,h1,r1⟩:=trodAll_cons r0;obtain ⟨v2,vs2,d2,ds2,p2,q2,rfl,rfl,rfl,h2,r2⟩:=trodAll_cons r1;obtain ⟨v3,vs3,d3,ds3,p3,q3,rfl,rfl,rfl,h3,r3⟩:=trodAll_cons r2;obtain ⟨rfl,rfl,rfl⟩:=trodAll_nil r3;obtain rfl:args=#[v0,v1,v2,v3]:=by cases args;simp_all
 obtain ⟨rfl,rfl⟩:=trodVars_none hV;obtain ⟨b0,len0,cap0,rfl⟩:=okWide_slice yU22 (hval 0 22 v0 rfl rfl);have k0:=h0;have lt0:∀ x∈p0,x.block < W.heap.size:=by obtain ⟨m,hm⟩:=k0;exact DataW.trod_lt m _ _ _ hm
 obtain ⟨fuel0,g0⟩:=h0;obtain ⟨a0,z0,q0,i0,o0⟩:=zco aH.row (sz:=2) yU22 yS77 (fun n cs' y hn hh=>by
  obtain ⟨f,a1,a2,_⟩:=zkR n cs' y hh;exact ⟨f,a1,aH.row_len f,a2⟩) g0
 obtain rfl:.slice b0 len0 cap0=z0:=by simpa [Value.cells] using q0
 obtain ⟨b1,len1,cap1,rfl⟩:=okWide_slice yU67 (hval 1 67 v1 rfl rfl);have k1:=h1;have lt1:∀ x∈p1,x.block < W.heap.size:=by obtain ⟨m,hm⟩:=k1;exact DataW.trod_lt m _ _ _ hm
 obtain ⟨fuel1,g1⟩:=h1;obtain ⟨a1,z1,q1,i1,o1⟩:=zco aI.row (sz:=9) yU67 yS103 (fun n cs' y hn hh=>by
  obtain ⟨f,a1,a2,_⟩:=zkQ n cs' y hh;exact ⟨f,a1,aI.row_len f,a2⟩) g1
 obtain rfl:.slice b1 len1 cap1=z1:=by simpa [Value.cells] using q1
 obtain ⟨b2,len2,cap2,rfl⟩:=okWide_slice yU24 (hval 2 24 v2 rfl rfl);have k2:=h2;have lt2:∀ x∈p2,x.block < W.heap.size:=by obtain ⟨m,hm⟩:=k2;exact DataW.trod_lt m _ _ _ hm
 obtain ⟨fuel2,g2⟩:=h2;obtain ⟨a2,z2,q2,i2,o2⟩:=zco aB.row (sz:=4) yU24 yS26 (fun n cs' y hn hh=>by
  obtain ⟨f,a1,a2,_⟩:=zbn n cs' y hh;exact ⟨f,a1,aB.row_len f,a2⟩) g2
 obtain rfl:.slice b2 len2 cap2=z2:=by simpa [Value.cells] using q2
 obtain ⟨x3,rfl⟩:=znQ yA26 (hval 3 26 v3 rfl rfl);have k3:=h3;have lt3:∀ x∈p3,x.block < W.heap.size:=by obtain ⟨m,hm⟩:=k3;exact DataW.trod_lt m _ _ _ hm
 obtain ⟨fuel3,g3⟩:=h3;obtain ⟨a3,i3,o3,l3⟩:=zbn _ _ _ g3;clear hA0 hval0 hsz0 hsz;refine (AC.law (w:=W) (zrX.none (by kernel_rfl)) (zcn a0 a1 a2 a3 o0 o1 o2 o3) (xs:=[_,_,_,_]) (by simp only [V.IsL];exact ⟨_,_,rfl,by rw [V.Is];exact i0,⟨_,_,rfl,by rw [V.Is];exact i1,⟨_,_,rfl,by rw [V.Is];exact i2,⟨_,_,rfl,by rw [V.Is];exact ⟨x3,rfl,zo3 i3 (by rw [aB.row_len];exact l3)⟩,rfl⟩⟩⟩⟩)).mono fun e W' ⟨he,bel⟩=>?_
 subst he;exact ⟨_,rfl,_,_,_,[],_,[],hW',trodAll_mk1 (shut_bool yU4 _),(trodAll_cons_mk (Below.trod laidOut (by kernel_rfl) (of_decide_eq_true (by kernel_rfl)) k0 bel lt0) (trodAll_cons_mk (Below.trod laidOut (by kernel_rfl) (of_decide_eq_true (by kernel_rfl)) k1 bel lt1) (trodAll_cons_mk (Below.trod laidOut (by kernel_rfl) (of_decide_eq_true (by kernel_rfl)) k2 bel lt2) (trodAll_cons_mk (Below.trod laidOut (by kernel_rfl) (of_decide_eq_true (by kernel_rfl)) k3 bel lt3) trodAll_mk0)))),rfl,bel.frame _,fun h=>by cases h⟩
theorem q1:Tryz.prog.inPlace 5=Rows.fnExactApplyRulesRow.inPlace:=by kernel_rfl
theorem q2:Tryz.prog.unfollowed 5=Rows.fnExactApplyRulesRow.unfollowed:=by kernel_rfl
theorem q3:Tryz.prog.recurses 5=Rows.fnExactApplyRulesRow.recurses:=by kernel_rfl
theorem q4:Tryz.prog.varsNamed 5=Rows.fnExactApplyRulesRow.named:=by kernel_rfl
theorem q5:Tryz.prog.liftsFinal=Rows.fnExactApplyRulesRow.lifted:=by kernel_rfl
theorem q6:Tryz.prog.mayEnter=true:=by kernel_rfl
theorem q7:Tryz.prog.make=some Rows.fnExactApplyRulesRow.make:=by kernel_rfl
theorem closed:joinedFacts Tryz.prog 5 Tryz.f5 Rows.fnExactApplyRulesSpec Rows.fnExactApplyRulesRow=true:=by
 unfold joinedFacts;rw [q1,q2,q3,q4,q5,q6,q7]
 kernel_rfl
theorem over:Rows.fnExactApplyRulesRow.holds Tryz.pinned (OpenSpec.ofChange Rows.fnExactApplyRulesSpec) :=
 OpenClaim.holds_of_wide 5 Tryz.f5 rfl rfl rfl rfl rfl rfl rfl ⟨rfl,rfl,rfl,rfl,rfl⟩ rfl rfl rfl rfl rfl (by kernel_rfl) Tryz.func5 closed
  (of_decide_eq_true (by kernel_rfl)) (by unfold Func.isWrapper;first | (rw [if_pos (by decide +kernel)];kernel_rfl) | (rw [if_neg (by decide +kernel)];exact ⟨rfl,rfl⟩))
  (fun os started H enc _=>lifted os started H enc)
theorem proved:Rows.FnExactApplyRulesSaid:=over
end Go.Proofs.YtcebadpiebamdaaGreat.fnExactApplyRules
namespace Go.Proofs.YtcebadpiebamdaaGreat
/-- The row,under a short name,for the claim. -/
theorem fnExactApplyRules_holds:Rows.FnExactApplyRulesSaid:=fnExactApplyRules.proved
#print axioms fnExactApplyRules_holds
end Go.Proofs.YtcebadpiebamdaaGreat
