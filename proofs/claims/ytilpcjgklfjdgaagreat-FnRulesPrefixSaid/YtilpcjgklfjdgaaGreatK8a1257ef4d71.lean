/- A part of the proof: what the functions that the law calls answer, as pure values. -/
import Derived.Test.YtilpcjgklfjdgaaGreatK6fdb3e52f70f
import Derived.Test.YtilpcjgklfjdgaaGreatK47376951e403
import Derived.Test.YtilpcjgklfjdgaaGreatKd150640a58b9
import Derived.Test.YtilpcjgklfjdgaaGreatKbeececb3b691
import Derived.Test.YtilpcjgklfjdgaaGreatK349a5dde2cfa
import Derived.Test.YtilpcjgklfjdgaaGreatK22fda00ce7bd
import Derived.Test.YtilpcjgklfjdgaaGreatK5bebff7b483b
import Derived.Test.YtilpcjgklfjdgaaGreatK944daf6655d5
set_option linter.unusedSimpArgs false
set_option linter.unusedVariables false
set_option maxRecDepth 100000
set_option maxHeartbeats 4000000
namespace Go.Abs
open Go.Proofs
def zfN (fuel:Nat):Prop:=∀ (x1:(List Bind)) (x2:Form) (x3:(List Form)) (x4:Form) (r:((List Hit) × Bool)),zde fuel x1 x2 x3 x4=some r→AC Tryz.prog 37 [.t (.sl (x1.map Bind.row)),.ag [.t (.sc (.int .i64 x2.kind)),.t (.sc (.str x2.name)),.t (.sc (.int .i64 x2.n)),.t (.sl (x2.scopes.map rI)),.t (.sl (x2.kids.map Form.row))],.t (.sl (x3.map Form.row)),.ag [.t (.sc (.int .i64 x4.kind)),.t (.sc (.str x4.name)),.t (.sc (.int .i64 x4.n)),.t (.sl (x4.scopes.map rI)),.t (.sl (x4.kids.map Form.row))]] noOb (.tp [.t (.sl (r.1.map Hit.row)),.t (.sc (.bool r.2))]) noOb
def zf1 (fuel:Nat):Prop:=∀ (x1:Form) (x2:Form) (o1:(List Bind)) (o2:(List Form)) (o3:(List Hit)) (r:(Bool × (List Hit))),zdK fuel x1 x2 o1 o2 o3=some r→AC Tryz.prog 80 [.ag [.t (.sc (.int .i64 x1.kind)),.t (.sc (.str x1.name)),.t (.sc (.int .i64 x1.n)),.t (.sl (x1.scopes.map rI)),.t (.sl (x1.kids.map Form.row))],.ag [.t (.sc (.int .i64 x2.kind)),.t (.sc (.str x2.name)),.t (.sc (.int .i64 x2.n)),.t (.sl (x2.scopes.map rI)),.t (.sl (x2.kids.map Form.row))],.rf 9000 0,.rf 9001 0,.rf 9002 0] (objs [(9000,.box [.t (.sl (o1.map Bind.row))]),(9001,.box [.t (.sl (o2.map Form.row))]),(9002,.box [.ar 9460]),(9460,.arr (o3.map Hit.row) 48 true)]) (.t (.sc (.bool r.1))) (objs [(9000,.box [.t (.sl (o1.map Bind.row))]),(9001,.box [.t (.sl (o2.map Form.row))]),(9002,.box [.ar 10460]),(9460,.dead),(10460,.arr (r.2.map Hit.row) 48 true)])
theorem m_impl_match_st (fu:Nat) (ih_m_impl_match:∀ k,k≤fu→zfN k) (ih_m_impl_match_1:∀ k,k≤fu→zf1 k):zfN (fu+1):=by
 intro x1 x2 x3 x4 r F0
 rw [zde] at F0
 refine AC_i [.t (.sl (r.1.map Hit.row)),.t (.sc (.bool r.2))] Tryz.func37 rfl Tryz.ntmps37 ?_
 intro C hC
 refine zb (za ?_)
 iterate 4 refine zaL ?_
 refine s_as ?_
 refine s_as ?_
 refine zf (zd (zb (zb (za ?_))))
 refine s_fa zcY ?_
 refine zu yA3 ?_
 refine zf (zd (zl (zb (za ?_))))
 refine s_eq ?_
 refine s_as ?_
 refine zf (zd ?_)
 refine zm F0 ?_ ?_<;>intro C1 F1
 refine zb (zl (zb (za ?_)))
 refine s_fa zcm ?_
 refine zu yA9 ?_
 refine zhr ?_
 refine s_as ?_
 refine zf (zd ?_)
 refine zm F1 ?_ ?_<;>intro C2 F2
 refine zb (za ?_)
 refine s_as ?_
 refine s_as ?_
 refine zf (zd (zh (zj (zg (zj (zg (zn ?_)))))))
 cases F2
 exact zk [] [] Tryz.results37
 refine zb (za ?_)
 refine zu yA24 ?_
 refine zI yA32 yS32 ?_
 obtain ⟨v3,V3,F3⟩:=zc F2
 refine zv [] (zhn fu _ _ _ V3) ?_
 refine s_as ?_
 refine zf (zd ?_)
 refine zm F3 ?_ ?_<;>intro C4 F4
 refine zb (za ?_)
 refine zu yA30 ?_
 refine zI yA32 yS32 ?_
 refine zI yA32 yS32 ?_
 obtain ⟨v5,V5,F5⟩:=zc F4
 refine zv [] (zja fu _ _ _ _ V5) ?_
 refine s_as ?_
 refine s_as ?_
 refine zf (zd (zh (zj (zg (zj (zg (zn ?_)))))))
 cases F5
 exact zk [] [] Tryz.results37
 refine zi (zW (zd (zb ?_)))
 refine zO yMix (by kernel_rfl) ?_
 refine zI yA32 yS32 ?_
 obtain ⟨v6,V6,F5⟩:=zc F4
 refine zv [] (zdk fu _ _ V6) ?_
 refine zI yA32 yS32 ?_
 obtain ⟨v7,V7,F6⟩:=zc F5
 refine zv [] (zdk fu _ _ V7) ?_
 refine zgD yZ48 yL48 ?_
 refine s_bs Hit.row [(Hit.mk v6 0 v7 ([]:List Hit))] yP42 yR48 ?_
 refine s_as ?_
 refine s_as ?_
 refine zae (by kernel_rfl) ?_
 refine zd (zh (zj (zg (zn ?_))))
 cases F6
 exact zk [] [49] Tryz.results37
 refine zb (za ?_)
 refine s_eq ?_
 refine s_as ?_
 refine zf (zd ?_)
 refine zm F1 ?_ ?_<;>intro C8 F2
 refine zb (za ?_)
 refine zI yA32 yS32 ?_
 refine zI yA32 yS32 ?_
 obtain ⟨v9,V9,F3⟩:=zc F2
 refine zv [] (zaU fu _ _ _ V9) ?_
 refine s_as ?_
 refine s_as ?_
 refine zf (zd (zh (zj (zg (zn ?_)))))
 cases F3
 exact zk [] [] Tryz.results37
 refine zi (zW (zd (zb (zb (za ?_)))))
 refine s_fa zcY ?_
 refine zu yA3 ?_
 refine s_ne ?_
 refine zf (zd ?_)
 refine zm F2 ?_ ?_<;>intro C10 F3
 refine zb (za ?_)
 refine s_as ?_
 refine s_as ?_
 refine zf (zd (zh (zg (zn ?_))))
 cases F3
 exact zk [] [] Tryz.results37
 refine zi (zd (zb (za ?_)))
 refine s_bs Hit.row ([]:List Hit) yP42 yR48 ?_
 refine zU yZ42 ?_
 refine zac yS42 ?_
 refine zf (zd (zb (za ?_)))
 refine s_fn ?_
 refine s_as ?_
 refine zf (zd (zb (za ?_)))
 refine s_fa zF ?_
 refine zu yA24 ?_
 obtain ⟨v11,V11,F4⟩:=zc F3
 refine zv [] (m_impl_dotsAt_ok fu _ _ V11) ?_
 refine s_as ?_
 refine zf (zd (zb (zb (za ?_))))
 refine s_mv ?_
 refine s_lt ?_
 refine zf (zd ?_)
 refine zm F4 ?_ ?_<;>intro C12 F5
 refine zb (zb (za ?_))
 refine s_fa zF ?_
 refine zu yA24 ?_
 refine zC yU24 ?_
 refine s_fa zF ?_
 refine zu yA24 ?_
 refine zC yU24 ?_
 refine s_ne ?_
 refine zf (zd ?_)
 refine zm F5 ?_ ?_<;>intro C13 F6
 refine zb (za ?_)
 refine s_as ?_
 refine s_as ?_
 refine zf (zd (zh (zg (zg (zn ?_)))))
 cases F6
 exact zk [] [] Tryz.results37
 refine zi (zd ?_)
 refine zbb (α:=Nat × (List Hit)) [8,9,13,72,73,74,75,76,77,78,79,80,81,82,83,84,85,86,87,88,89,90,91] [10,58,5040] [] (fun a=>[]) (fun a=>[(10,.box [.ar 5040]),(58,.dead),(5040,.arr (a.2.map Hit.row) 48 true)]) (fun a=>a.1≤fu∧zfM a.1  a.2=some r) ?_ ?_
 refine zb (za ?_)
 refine s_fa zF ?_
 refine zu yA24 ?_
 refine zC yU24 ?_
 refine s_mv ?_
 refine zf (zd (zl ?_))
 refine zeR 10 58 5040 [.ar 5040] ?_
 refine zal [8,9,13,75,76,77,78,79,80,81,82,83,84,85,86,87,88,89,90,91] [10,5040] [42089] [5040] (fun a:Nat × Int × (List Hit)=>a.1) (fun a:Nat × Int × (List Hit)=>[(75,.t (.sc (.int .i64 a.2.1)))]) (fun a:Nat × Int × (List Hit)=>[(10,.box [.ar 5040]),(5040,.arr (a.2.2.map Hit.row) 48 true)]) (fun a:Nat × Int × (List Hit)=>a.1≤fu∧zdd a.1 x1 x2 x3 x4 a.2.1 a.2.2=some r∧0≤a.2.1) (fu,0,([]:List Hit)) ⟨Nat.le_refl _,F6,by simp⟩ (by rfl) (by rfl) (fun _=>rfl) (zH (by conv=>lhs;whnf) (by rfl) zaV) (zL (by conv=>lhs;whnf) (by rfl) (zL (by conv=>lhs;whnf) (by rfl) zaG)) (zbM hC rfl) (by repeat (first | exact z6 rfl | refine zaj rfl ?_ | refine zP rfl ?_)) (by repeat (first | exact zax | exact z9 rfl | refine zak rfl ?_ | refine zQ rfl ?_)) ?_
 clear F6
 rintro ⟨fu,g14,g15⟩ ⟨hl16,F7,hn_g14⟩
 dsimp only at hl16 F7 hn_g14 ⊢
 obtain _ | fu:=fu
 · rw [zdd] at F7;cases F7
 rw [zdd] at F7
 refine zb (za ?_)
 refine s_lt ?_
 refine zf (zd (zb ?_))
 refine zm F7 ?_ ?_<;>intro C17 F8
 refine zM 61 (fun B18=>?_)
 refine zi (zd (zb (zl (zb (za ?_)))))
 refine s_mv ?_
 refine s_as ?_
 refine zf (zd (zb ?_))
 refine zO yMix (by kernel_rfl) ?_
 refine s_mv ?_
 refine s_fa zF ?_
 refine zu yA24 ?_
 refine s_mv ?_
 obtain ⟨v19,V19,F9⟩:=zc F8
 refine zK Form.row V19 (Form.row_eq _) yE24 ?_
 refine zam yA32 yS32 ?_
 refine s_fa zF ?_
 refine zu yA24 ?_
 refine s_mv ?_
 obtain ⟨v20,V20,F10⟩:=zc F9
 refine zK Form.row V20 (Form.row_eq _) yE24 ?_
 refine zam yA32 yS32 ?_
 obtain ⟨v21,V21,F11⟩:=zc F10
 refine zY [(9000,4),(9001,6),(9002,10),(9460,5040),(10460,42089)] [] _ _ (ih_m_impl_match_1 fu (by omega) _ _ _ _ _ _ V21) ?_
 refine zaY ?_
 refine zae (by kernel_rfl) ?_
 refine zd ?_
 refine zm F11 ?_ ?_<;>intro C22 F12
 refine zb (za ?_)
 refine s_as ?_
 refine s_as ?_
 refine zf (zd (zh (zj (zg (zw (zj (zew (zg (zn ?_)))))))))
 cases F12
 exact zk [] [] Tryz.results37
 refine zi (zW (zd (za ?_)))
 refine zJ (zas C17 B18 hn_g14) ?_
 refine s_mv ?_
 refine zf ?_
 exact s_rn (fu,(g14+1),v21.2) ⟨by first | omega | (dsimp only;omega),F12,by first | omega | (dsimp only;omega)⟩ [(5040,42089)]
 refine zy (zq (zo (zr ?_)))
 exact s_jn (fu,g15) ⟨by first | omega | (dsimp only;omega),F8⟩
 clear F6
 rintro ⟨fu,g23⟩ ⟨hl24,F7⟩
 dsimp only at hl24 F7 ⊢
 obtain _ | fu:=fu
 · rw [zfM] at F7;cases F7
 rw [zfM] at F7
 refine zb (za ?_)
 refine zu yA42 ?_
 refine s_as ?_
 refine s_as ?_
 refine zf (zd (zh (zg (zn ?_))))
 cases F7
 exact zk [] [5040] Tryz.results37
 refine zi (zd (zb (za ?_)))
 refine s_fa zF ?_
 refine zu yA24 ?_
 refine zC yU24 ?_
 refine s_fa zF ?_
 refine zu yA24 ?_
 refine zC yU24 ?_
 refine zh9 rfl ?_
 refine zh9 rfl ?_
 refine s_as ?_
 refine zf (zd (zb (zb (za ?_))))
 refine s_mv ?_
 refine s_lt ?_
 refine zf (zd ?_)
 refine zm F5 ?_ ?_<;>intro C25 F6
 refine zb (za ?_)
 refine s_as ?_
 refine s_as ?_
 refine zf (zd (zh (zg (zn ?_))))
 cases F6
 exact zk [] [] Tryz.results37
 refine zi (zd (zb (za ?_)))
 refine s_mv ?_
 refine zh9 rfl ?_
 refine s_as ?_
 refine zf (zd ?_)
 refine zbb (α:=Nat × (List Hit)) [8,9,16,105,106,107,108,109,110,111,112,113,114,115,116,117,118,119,120,121,122] [10,58,5080] [] (fun a=>[]) (fun a=>[(10,.box [.ar 5080]),(58,.dead),(5080,.arr (a.2.map Hit.row) 48 true)]) (fun a=>a.1≤fu∧zeE a.1 x1 x2 x3 x4 v11 a.2=some r) ?_ ?_
 refine zb (za ?_)
 refine s_as ?_
 refine zf (zd (zl ?_))
 refine zeR 10 58 5080 [.ar 5080] ?_
 refine zal [8,9,16,105,106,107,108,109,110,111,112,113,114,115,116,117,118,119,120,121,122] [10,5080] [42121] [5080] (fun a:Nat × Int × (List Hit)=>a.1) (fun a:Nat × Int × (List Hit)=>[(16,.t (.sc (.int .i64 a.2.1)))]) (fun a:Nat × Int × (List Hit)=>[(10,.box [.ar 5080]),(5080,.arr (a.2.2.map Hit.row) 48 true)]) (fun a:Nat × Int × (List Hit)=>a.1≤fu∧zdc a.1 x1 x2 x3 x4 v11 a.2.1 a.2.2=some r) (fu,0,([]:List Hit)) ⟨Nat.le_refl _,F6⟩ (by rfl) (by rfl) (fun _=>rfl) (zH (by conv=>lhs;whnf) (by rfl) zaV) (zL (by conv=>lhs;whnf) (by rfl) (zL (by conv=>lhs;whnf) (by rfl) zaG)) (zbM hC rfl) (by repeat (first | exact z6 rfl | refine zaj rfl ?_ | refine zP rfl ?_)) (by repeat (first | exact zax | exact z9 rfl | refine zak rfl ?_ | refine zQ rfl ?_)) ?_
 clear F6
 rintro ⟨fu,g26,g27⟩ ⟨hl28,F7⟩
 dsimp only at hl28 F7 ⊢
 obtain _ | fu:=fu
 · rw [zdc] at F7;cases F7
 rw [zdc] at F7
 refine zb (zb (za ?_))
 refine s_mv ?_
 refine s_mv ?_
 refine s_lt ?_
 refine zf (zd ?_)
 refine zm F7 ?_ ?_<;>intro C29 F8
 refine zi (zd (zb (zl (zb ?_))))
 refine zO yMix (by kernel_rfl) ?_
 refine s_mv ?_
 refine s_fa zF ?_
 refine zu yA24 ?_
 refine s_mv ?_
 obtain ⟨v30,V30,F9⟩:=zc F8
 refine zK Form.row V30 (Form.row_eq _) yE24 ?_
 refine zam yA32 yS32 ?_
 refine s_fa zF ?_
 refine zu yA24 ?_
 refine s_mv ?_
 obtain ⟨v31,V31,F10⟩:=zc F9
 refine zK Form.row V31 (Form.row_eq _) yE24 ?_
 refine zam yA32 yS32 ?_
 obtain ⟨v32,V32,F11⟩:=zc F10
 refine zY [(9000,4),(9001,6),(9002,10),(9460,5080),(10460,42121)] [] _ _ (ih_m_impl_match_1 fu (by omega) _ _ _ _ _ _ V32) ?_
 refine zaY ?_
 refine zae (by kernel_rfl) ?_
 refine zd ?_
 refine zm F11 ?_ ?_<;>intro C33 F12
 refine zb (za ?_)
 refine s_as ?_
 refine s_as ?_
 refine zf (zd (zh (zj (zg (zw (zj (zew (zn ?_))))))))
 cases F12
 exact zk [] [] Tryz.results37
 refine zi (zW (zd (za ?_)))
 refine s_mv ?_
 refine zJ rfl ?_
 refine s_as ?_
 refine zf ?_
 exact s_rn (fu,(w64 (g26+1)),v32.2) ⟨by first | omega | (dsimp only;omega),F12⟩ [(5080,42121)]
 refine zy (zq (zo (zr ?_)))
 exact s_jn (fu,g27) ⟨by first | omega | (dsimp only;omega),F8⟩
 clear F6
 rintro ⟨fu,g34⟩ ⟨hl35,F7⟩
 dsimp only at hl35 F7 ⊢
 obtain _ | fu:=fu
 · rw [zeE] at F7;cases F7
 rw [zeE] at F7
 refine zb ?_
 refine zO yMix (by kernel_rfl) ?_
 refine s_fa zF ?_
 refine zu yA24 ?_
 refine s_mv ?_
 obtain ⟨v36,V36,F8⟩:=zc F7
 refine zK Form.row V36 (Form.row_eq _) yE24 ?_
 refine zam yA32 yS32 ?_
 refine zu yA24 ?_
 obtain ⟨v37,V37,F9⟩:=zc F8
 refine zY [(9200,2130)] [] _ _ (zhG fu _ _ _ V37) ?_
 refine s_mv ?_
 refine zbf ?_
 refine zbf ?_
 refine s_as ?_
 refine s_as ?_
 refine zae (by kernel_rfl) ?_
 refine zd (zb (za ?_))
 refine s_bs Hit.row ([]:List Hit) yP42 yR48 ?_
 refine s_as ?_
 refine zf (zd ?_)
 refine awp_toD 133 (Hit.rowO 48) (es:=([]:List Hit).map Hit.row) (by conv=>lhs;whnf) rfl ?_
 refine zbb (α:=Nat × (List Hit)) [19,20,21,134,135,136,137,138,139,140,141,142,143,144,145,146,147,148,149,150,151,152] [133,5120] [] (fun a=>[(19,.ar 5120)]) (fun a=>[(133,.dead),(5120,.dar (a.2.map (Hit.rowO 48)) 48)]) (fun a=>a.1≤fu∧zeD a.1 x1 x2 x3 x4 v11 g34 a.2=some r) ?_ ?_
 refine zb (za ?_)
 refine s_mv ?_
 refine zg8 yU24 ?_
 refine s_mv ?_
 refine zf (zd (zl ?_))
 refine awp_mvD 19 133 5120 (by conv=>lhs;whnf) (by conv=>lhs;whnf) rfl ?_
 refine zal [19,20,21,136,137,138,139,140,141,142,143,144,145,146,147,148,149,150,151,152] [5120] [21,150,151] [5120] (fun a:Nat × (List Hit) × Int=>a.1) (fun a:Nat × (List Hit) × Int=>[(19,.ar 5120),(136,.t (.sc (.int .i64 a.2.2)))]) (fun a:Nat × (List Hit) × Int=>[(5120,.dar (a.2.1.map (Hit.rowO 48)) 48)]) (fun a:Nat × (List Hit) × Int=>a.1≤fu∧zcr a.1 x1 x2 x3 x4 v11 g34 v37 a.2.1 a.2.2=some r∧0≤a.2.2) (fu,([]:List Hit),0) ⟨Nat.le_refl _,F9,by simp⟩ (by rfl) (by rfl) (fun _=>rfl) (zH (by conv=>lhs;whnf) (by rfl) (zH (by conv=>lhs;whnf) (by rfl) zaV)) (zL (by conv=>lhs;whnf) (by rfl) zaG) (zbM hC rfl) (by repeat (first | exact z6 rfl | refine zaj rfl ?_ | refine zP rfl ?_)) (by repeat (first | exact zax | exact z9 rfl | refine zak rfl ?_ | refine zQ rfl ?_)) ?_
 clear F9
 rintro ⟨fu,g38,g39⟩ ⟨hl40,F10,hn_g39⟩
 dsimp only at hl40 F10 hn_g39 ⊢
 obtain _ | fu:=fu
 · rw [zcr] at F10;cases F10
 rw [zcr] at F10
 refine zb (za ?_)
 refine s_lt ?_
 refine zf (zd (zb ?_))
 refine zm F10 ?_ ?_<;>intro C41 F11
 refine ziq 17 2130 (fun B42=>?_)
 refine zi (zd (zb (zl (zb (za ?_)))))
 refine s_mv ?_
 obtain ⟨v43,V43,F12⟩:=zc F11
 refine zis Form.row V43 yE24 ?_
 refine s_lAN Form.row V43 (Form.row_eq _) yA32 yS32 ?_
 refine zU yZ32 ?_
 refine s_as ?_
 refine zac yS32 ?_
 refine zf (zd ?_)
 refine zO yMix (by kernel_rfl) ?_
 refine s_mv ?_
 refine zI yA32 yS32 ?_
 obtain ⟨v44,V44,F13⟩:=zc F12
 refine zv [] (zdk fu _ _ V44) ?_
 refine s_mv ?_
 refine s_mv ?_
 obtain ⟨v45,V45,F14⟩:=zc F13
 refine zK rI V45 rfl yE27 ?_
 refine zu yA3 ?_
 refine zJ rfl ?_
 refine s_bldN 11 48 yZ48 yL48 ?_
 refine s_bs (Hit.rowN 48) [(Hit.mk v44 (w64 (v45+1)) (Form.mk 0 (⟨#[]⟩:ByteArray) 0 ([]:List Int) ([]:List Form)) ([]:List Hit))] yP42 yR48 ?_
 obtain ⟨hk46,F15⟩:=zad F14
 refine s_apD (Hit.rowO 48) (Hit.rowN 48) (Hit.rowN_nis yS48) (fun _=>rfl) rfl hk46 yP42 ?_
 refine s_as ?_
 refine zae (by kernel_rfl) ?_
 refine zW (zd (za ?_))
 refine zJ (zas C41 B42 hn_g39) ?_
 refine s_mv ?_
 refine zf ?_
 exact s_rn (fu,(g38++[(Hit.mk v44 (w64 (v45+1)) (Form.mk 0 (⟨#[]⟩:ByteArray) 0 ([]:List Int) ([]:List Form)) ([]:List Hit))]),(g39+1)) ⟨by first | omega | (dsimp only;omega),F15,by first | omega | (dsimp only;omega)⟩ [(5120,151)]
 refine zy (zq (zo (zr ?_)))
 exact s_jn (fu,g38) ⟨by first | omega | (dsimp only;omega),F11⟩
 clear F9
 rintro ⟨fu,g47⟩ ⟨hl48,F10⟩
 dsimp only at hl48 F10 ⊢
 obtain _ | fu:=fu
 · rw [zeD] at F10;cases F10
 rw [zeD] at F10
 refine zbb (α:=Nat × (List Hit)) [8,9,23,24,25,26,153,154,155,156,157,158,159,160,161,162,163,164,165,166,167,168,169,170,171,172,173,174,175,176,177,178,179,180,181,182,183,184,185,186,187,188,189,190,191,192,193,194,195,196,197,198,199,200] [5120] [] (fun a=>[]) (fun a=>[(5120,.dar (a.2.map (Hit.rowO 48)) 48)]) (fun a=>a.1≤fu∧zdU a.1 x1 x2 x3 x4 v11 g34 a.2=some r) ?_ ?_
 refine zb (za ?_)
 refine s_fa zF ?_
 refine zu yA24 ?_
 iterate 3 refine s_mv ?_
 refine zJ rfl ?_
 obtain ⟨v49,V49,F11⟩:=zc F10
 refine s_sl11 Form.row (fun y=>Form.row_len y) V49 yU24 yE24 ?_
 refine zC yU24 ?_
 refine s_mv ?_
 refine zf (zd (zl ?_))
 refine zaK (β:=Int × (List Hit)) [8,9,23,24,25,26,161,162,163,164,165,166,167,168,169,170,171,172,173,174,175,176,177,178,179,180,181,182,183,184,185,186,187,188,189,190,191,192,193,194,195,196,197,198,199,200] [5120] [23] (fun a=>[(161,.t (.sc (.int .i64 a.2.1)))]) (fun a=>[(5120,.dar (a.2.2.map (Hit.rowO 48)) 48)]) (fun a=>a.1≤fu∧zb4 a.1 x1 x2 x3 x4 v11 g34 v49 a.2.1 a.2.2=some r) (fu,0,g47) ⟨Nat.le_refl _,F11⟩ ?_
 clear F11
 rintro ⟨fu,g50,g51⟩ ⟨hl52,F12⟩
 dsimp only at hl52 F12 ⊢
 obtain _ | fu:=fu
 · rw [zb4] at F12;cases F12
 rw [zb4] at F12
 refine zb (za ?_)
 refine s_lt ?_
 refine zf (zd (zb ?_))
 refine zm F12 ?_ ?_<;>intro C53 F13
 refine zM 159 (fun B54=>?_)
 refine zi (zd (zb (zl (zb (za ?_)))))
 obtain ⟨v55,V55,F14⟩:=zc F13
 refine zK Form.row V55 (Form.row_eq _) yE24 ?_
 refine zam yA32 yS32 ?_
 refine zU yZ32 ?_
 refine zac yS32 ?_
 refine zf (zd (zb ?_))
 refine zO yMix (by kernel_rfl) ?_
 refine zu yA30 ?_
 refine s_fa zF ?_
 refine zu yA24 ?_
 refine s_mv ?_
 obtain ⟨v56,V56,F15⟩:=zc F14
 refine zK Form.row V56 (Form.row_eq _) yE24 ?_
 refine zam yA32 yS32 ?_
 refine zu yA24 ?_
 refine zI yA32 yS32 ?_
 obtain ⟨v57,V57,F16⟩:=zc F15
 refine zv [] (ih_m_impl_match fu (by omega) _ _ _ _ _ V57) ?_
 refine s_mv ?_
 refine zbf ?_
 refine zbf ?_
 refine s_as ?_
 refine s_as ?_
 refine zae (by kernel_rfl) ?_
 refine zd (zb (zb (za ?_)))
 refine s_mv ?_
 refine zaY ?_
 refine zf (zd ?_)
 refine zm F16 ?_ ?_<;>intro C58 F17
 refine zb (za ?_)
 refine s_as ?_
 refine s_as ?_
 refine zf (zd (zh (zg (zj (zg (zw (zj (zew (zn ?_)))))))))
 cases F17
 exact zk [] [] Tryz.results37
 refine zi (zd (zb (za ?_)))
 refine s_mv ?_
 refine s_lenD yU42 ?_
 refine s_mv ?_
 refine zf (zd (zl ?_))
 refine zaK (β:=Int × (List Hit)) [26,181,182,183,184,185,186,187,188,189,190,191,192,193,194,195,196,197,198,199] [5120] [188,194,195] (fun a=>[(181,.t (.sc (.int .i64 a.2.1)))]) (fun a=>[(5120,.dar (a.2.2.map (Hit.rowO 48)) 48)]) (fun a=>a.1≤fu∧zcq a.1 x1 x2 x3 x4 v11 g34 v49 g50 g51 v57 a.2.1 a.2.2=some r) (fu,0,g51) ⟨Nat.le_refl _,F17⟩ ?_
 clear F17
 rintro ⟨fu,g59,g60⟩ ⟨hl61,F18⟩
 dsimp only at hl61 F18 ⊢
 obtain _ | fu:=fu
 · rw [zcq] at F18;cases F18
 rw [zcq] at F18
 refine zb (za ?_)
 refine s_lt ?_
 refine zf (zd (zb ?_))
 refine zm F18 ?_ ?_<;>intro C62 F19
 refine zi (zd (zb (zl (zb (za ?_)))))
 refine s_mv ?_
 refine s_as ?_
 refine zf (zd ?_)
 refine zO yMix (by kernel_rfl) ?_
 refine s_mv ?_
 refine s_mv ?_
 obtain ⟨v63,V63,F20⟩:=zc F19
 refine s_ixD (Hit.rowO 48) V63 yE42 ?_
 refine s_fa ziw ?_
 refine s_ldD (Hit.rowO 48) Hit.row v63.many Hit.row_plain V63 yA42 yS48 ?_
 refine s_mv ?_
 refine s_mv ?_
 obtain ⟨v64,V64,F21⟩:=zc F20
 refine zK Hit.row V64 (Hit.row_eq _) yE42 ?_
 refine zam yA48 yS48 ?_
 refine zg8 yU42 ?_
 refine s_bs Hit.row [(Hit.mk (Form.mk 0 (⟨#[]⟩:ByteArray) 0 ([]:List Int) ([]:List Form)) 0 (Form.mk 0 (⟨#[]⟩:ByteArray) 0 ([]:List Int) ([]:List Form)) ([]:List Hit))] yP42 yR48 ?_
 obtain ⟨hk65,F22⟩:=zad F21
 refine zek Hit.row (fun y=>Hit.row_len y) hk65 yP42 ?_
 obtain ⟨v66,V66,F23⟩:=zc F22
 refine zis Hit.row V66 yE42 ?_
 refine s_stA Hit.row v64 V66 (Hit.row_eq _) (Hit.row_eq _) yS48 yS48 ?_
 obtain ⟨v67,V67,F24⟩:=zc F23
 refine s_ixH (Hit.rowO 48) V67 yE42 ?_
 refine s_fa ziw ?_
 refine s_stD (Hit.rowO 48) V63 yS42 yS48 ?_
 refine zae (by kernel_rfl) ?_
 refine zW (zd ?_)
 refine awp_jnD 5120 195 12 (Hit.rowO 48) Hit.row (Hit.mk v63.name v63.depth v63.one ((v63.many++[(Hit.mk (Form.mk 0 (⟨#[]⟩:ByteArray) 0 ([]:List Int) ([]:List Form)) 0 (Form.mk 0 (⟨#[]⟩:ByteArray) 0 ([]:List Int) ([]:List Form)) ([]:List Hit))]).set (v63.many.length:Int).toNat v64)) ((v63.many++[(Hit.mk (Form.mk 0 (⟨#[]⟩:ByteArray) 0 ([]:List Int) ([]:List Form)) 0 (Form.mk 0 (⟨#[]⟩:ByteArray) 0 ([]:List Int) ([]:List Form)) ([]:List Hit))]).set (v63.many.length:Int).toNat v64) V63 rfl ?_
 refine za ?_
 refine zJ rfl ?_
 refine s_mv ?_
 refine zf ?_
 exact s_rn (fu,(w64 (g59+1)),(g60.set g59.toNat (Hit.mk v63.name v63.depth v63.one ((v63.many++[(Hit.mk (Form.mk 0 (⟨#[]⟩:ByteArray) 0 ([]:List Int) ([]:List Form)) 0 (Form.mk 0 (⟨#[]⟩:ByteArray) 0 ([]:List Int) ([]:List Form)) ([]:List Hit))]).set (v63.many.length:Int).toNat v64)))) ⟨by first | omega | (dsimp only;omega),F24⟩
 refine zy (zq (zo (zr (zW (zd (za ?_))))))
 refine zJ rfl ?_
 refine s_mv ?_
 refine zf ?_
 exact s_rn (fu,(w64 (g50+1)),g60) ⟨by first | omega | (dsimp only;omega),F19⟩
 refine zy (zq (zo (zr ?_)))
 exact s_jn (fu,g51) ⟨by first | omega | (dsimp only;omega),F13⟩
 clear F10
 rintro ⟨fu,g68⟩ ⟨hl69,F11⟩
 dsimp only at hl69 F11 ⊢
 obtain _ | fu:=fu
 · rw [zdU] at F11;cases F11
 rw [zdU] at F11
 refine zb ?_
 refine awp_fzD 5120 Hit.row (Hit.rowO 48) (Hit.rowO_fzB 48) (Hit.rowO_fzT 48) (by conv=>lhs;whnf) ?_
 refine za ?_
 refine zu yA42 ?_
 refine s_mv ?_
 obtain ⟨hk70,F12⟩:=zad F11
 refine zek Hit.row (fun y=>Hit.row_len y) hk70 yP42 ?_
 refine zac yS42 ?_
 refine zf (zd (zb (zb (za ?_))))
 refine s_mv ?_
 refine zJ rfl ?_
 refine s_as ?_
 refine zf (zd (zl ?_))
 refine zeR 10 203 5200 [.ar 5200] ?_
 refine zal [8,9,27,206,207,208,209,210,211,212,213,214,215,216,217,218,219,220,221,222,223,224,225,226,227,228,229,230,231,232] [10,5200] [42231] [5200] (fun a:Nat × Int × (List Hit)=>a.1) (fun a:Nat × Int × (List Hit)=>[(27,.t (.sc (.int .i64 a.2.1)))]) (fun a:Nat × Int × (List Hit)=>[(10,.box [.ar 5200]),(5200,.arr (a.2.2.map Hit.row) 48 true)]) (fun a:Nat × Int × (List Hit)=>a.1≤fu∧zcJ a.1 x1 x2 x3 x4 v11 a.2.1 a.2.2=some r) (fu,(w64 (v11+1)),(g34++g68)) ⟨Nat.le_refl _,F12⟩ (by rfl) (by rfl) (fun _=>rfl) (zH (by conv=>lhs;whnf) (by rfl) zaV) (zL (by conv=>lhs;whnf) (by rfl) (zL (by conv=>lhs;whnf) (by rfl) zaG)) (zbM hC rfl) (by repeat (first | exact z6 rfl | refine zaj rfl ?_ | refine zP rfl ?_)) (by repeat (first | exact zax | exact z9 rfl | refine zak rfl ?_ | refine zQ rfl ?_)) ?_
 clear F12
 rintro ⟨fu,g71,g72⟩ ⟨hl73,F13⟩
 dsimp only at hl73 F13 ⊢
 obtain _ | fu:=fu
 · rw [zcJ] at F13;cases F13
 rw [zcJ] at F13
 refine zb (zb (za ?_))
 refine s_mv ?_
 refine s_fa zF ?_
 refine zu yA24 ?_
 refine zC yU24 ?_
 refine s_lt ?_
 refine zf (zd ?_)
 refine zm F13 ?_ ?_<;>intro C74 F14
 refine zM 61 (fun B75=>?_)
 refine zi (zd (zb (zl (zb ?_))))
 refine zO yMix (by kernel_rfl) ?_
 refine s_mv ?_
 refine s_fa zF ?_
 refine zu yA24 ?_
 refine s_mv ?_
 obtain ⟨v76,V76,F15⟩:=zc F14
 refine zK Form.row V76 (Form.row_eq _) yE24 ?_
 refine zam yA32 yS32 ?_
 refine s_fa zF ?_
 refine zu yA24 ?_
 refine s_mv ?_
 refine s_mv ?_
 refine zJ rfl ?_
 refine s_mv ?_
 refine zJ rfl ?_
 refine s_mv ?_
 refine zh9 rfl ?_
 refine zh9 rfl ?_
 obtain ⟨v77,V77,F16⟩:=zc F15
 refine zK Form.row V77 (Form.row_eq _) yE24 ?_
 refine zam yA32 yS32 ?_
 obtain ⟨v78,V78,F17⟩:=zc F16
 refine zY [(9000,4),(9001,6),(9002,10),(9460,5200),(10460,42231)] [] _ _ (ih_m_impl_match_1 fu (by omega) _ _ _ _ _ _ V78) ?_
 refine zaY ?_
 refine zae (by kernel_rfl) ?_
 refine zd ?_
 refine zm F17 ?_ ?_<;>intro C79 F18
 refine zb (za ?_)
 refine s_as ?_
 refine s_as ?_
 refine zf (zd (zh (zj (zg (zw (zj (zg (zn ?_))))))))
 cases F18
 exact zk [] [] Tryz.results37
 refine zi (zW (zd (za ?_)))
 refine s_mv ?_
 refine zJ (zas C74 B75 (zdE V76).1) ?_
 refine s_as ?_
 refine zf ?_
 exact s_rn (fu,(g71+1),v78.2) ⟨by first | omega | (dsimp only;omega),F18⟩ [(5200,42231)]
 refine zy (zq (zo (zr (zd (zb (za ?_))))))
 refine zu yA42 ?_
 refine s_as ?_
 refine s_as ?_
 refine zf (zd (zh (zn ?_)))
 cases F14
 exact zk [] [5200] Tryz.results37
theorem m_impl_match_1_st (fu:Nat) (ih_m_impl_match:∀ k,k≤fu→zfN k) (ih_m_impl_match_1:∀ k,k≤fu→zf1 k):zf1 (fu+1):=by
 intro x1 x2 o1 o2 o3 r F0
 rw [zdK] at F0
 refine AC_i [.t (.sc (.bool r.1))] Tryz.func80 rfl Tryz.ntmps80 ?_
 intro C hC
 refine zb (za ?_)
 refine zaL ?_
 refine zaL ?_
 refine s_as ?_
 refine zf (zd (zb (za ?_)))
 refine zu yA30 ?_
 refine zI yA32 yS32 ?_
 refine zu yA24 ?_
 refine zI yA32 yS32 ?_
 obtain ⟨v1,V1,F1⟩:=zc F0
 refine zv [] (ih_m_impl_match fu (by omega) _ _ _ _ _ V1) ?_
 refine s_mv ?_
 refine zbf ?_
 refine zbf ?_
 refine s_as ?_
 refine s_as ?_
 refine zf (zd (zb (za ?_)))
 refine zu yA42 ?_
 refine s_mv ?_
 obtain ⟨hk2,F2⟩:=zad F1
 refine zek Hit.row (fun y=>Hit.row_len y) hk2 yP42 ?_
 refine zac yS42 ?_
 refine zf (zd (zb (za ?_)))
 refine s_mv ?_
 refine s_as ?_
 refine zf (zd ?_)
 refine zeR 9002 20 10460 [.ar 10460] ?_
 refine zh (zn ?_)
 cases F2
 exact zk _ [] Tryz.results80
theorem m_impl_match_all (fuel:Nat):zfN fuel∧zf1 fuel:=by
 induction fuel using Nat.strongRecOn with
 | _ N ih =>
   cases N with
   | zero=>exact ⟨(by intro x1 x2 x3 x4 r h;rw [zde] at h;cases h),(by intro x1 x2 o1 o2 o3 r h;rw [zdK] at h;cases h)⟩
   | succ fu=>exact ⟨m_impl_match_st fu (fun k hk=>(ih k (by omega)).1) (fun k hk=>(ih k (by omega)).2),m_impl_match_1_st fu (fun k hk=>(ih k (by omega)).1) (fun k hk=>(ih k (by omega)).2)⟩
theorem m_impl_match_ok (fuel:Nat):zfN fuel:=(m_impl_match_all fuel).1
def m_impl_FirstRule_AC (fuel:Nat):Prop:=∀ (x1:(List Bind)) (x2:(List Rule)) (x3:(List Form)) (x4:Form) (r:(Int × Bool)),zeb fuel x1 x2 x3 x4=some r→AC Tryz.prog 26 [.t (.sl (x1.map Bind.row)),.t (.sl (x2.map Rule.row)),.t (.sl (x3.map Form.row)),.ag [.t (.sc (.int .i64 x4.kind)),.t (.sc (.str x4.name)),.t (.sc (.int .i64 x4.n)),.t (.sl (x4.scopes.map rI)),.t (.sl (x4.kids.map Form.row))]] noOb (.tp [.t (.sc (.int .i64 r.1)),.t (.sc (.bool r.2))]) noOb
theorem zh3 (fuel:Nat):m_impl_FirstRule_AC fuel:=by
 intro x1 x2 x3 x4 r F0
 unfold zeb at F0
 refine AC_i [.t (.sc (.int .i64 r.1)),.t (.sc (.bool r.2))] Tryz.func26 rfl Tryz.ntmps26 ?_
 intro C hC
 refine zb (za ?_)
 refine zaL ?_
 refine s_as ?_
 refine s_as ?_
 refine zf (zd (zb ?_))
 refine zbb (α:=Nat × Bool) [14,15,16,17,18,19,20,21,22,23,24,25,26,27] [] [] (fun a=>[(27,.t (.sc (.bool a.2)))]) (fun a=>[]) (fun a=>a.1≤fuel∧zbl a.1 x1 x2 x3 x4 a.2=some r) ?_ ?_
 refine za ?_
 refine s_mv ?_
 obtain ⟨v1,V1,F1⟩:=zc F0
 refine zv [] (zf4 fuel _ _ V1) ?_
 refine zaY ?_
 refine s_mv ?_
 refine zp _ 17 F1 ?_ ?_<;>intro C2 F2
 iterate 4 refine r_no rfl ?_
 refine zA ?_
 refine s_mv ?_
 iterate 3 refine r_no rfl ?_
 refine zA ?_
 refine zf ?_
 exact s_jn (fuel,true) ⟨by first | omega | (dsimp only;omega),F2⟩
 refine s_mv ?_
 refine s_mv ?_
 obtain ⟨v3,V3,F3⟩:=zc F2
 refine zv [] (m_impl_rulesOk_ok fuel _ _ _ V3) ?_
 refine zaY ?_
 refine zz ?_
 refine s_mv ?_
 refine zp _ 23 F3 ?_ ?_<;>intro C4 F4
 iterate 3 refine r_no rfl ?_
 refine zA ?_
 refine zf ?_
 exact s_jn (fuel,true) ⟨by first | omega | (dsimp only;omega),F4⟩
 refine zI yA32 yS32 ?_
 obtain ⟨v5,V5,F5⟩:=zc F4
 refine zv [] (zcV fuel _ _ V5) ?_
 refine zaY ?_
 refine zz ?_
 refine zf ?_
 exact s_jn (fuel,(!v5)) ⟨by first | omega | (dsimp only;omega),F5⟩
 clear F0
 rintro ⟨fu,g6⟩ ⟨hl7,F1⟩
 dsimp only at hl7 F1 ⊢
 obtain _ | fu:=fu
 · rw [zbl] at F1;cases F1
 rw [zbl] at F1
 refine zm F1 ?_ ?_<;>intro C8 F2
 refine zb (za ?_)
 refine s_as ?_
 refine s_as ?_
 refine zf (zd (zh (zg (zn ?_))))
 cases F2
 exact zk [] [] Tryz.results26
 refine zi (zd (zb (zb (za ?_))))
 refine s_mv ?_
 refine zC yU23 ?_
 refine s_mv ?_
 refine zf (zd (zl ?_))
 refine zaK (β:=Int) [8,9,10,11,12,13,30,31,32,33,34,35,36,37,38,39,40,41,42,43,44,45,46] [] [11] (fun a=>[(30,.t (.sc (.int .i64 a.2)))]) (fun a=>[]) (fun a=>a.1≤fu∧zcf a.1 x1 x2 x3 x4 a.2=some r∧0≤a.2) (fu,0) ⟨Nat.le_refl _,F2,by simp⟩ ?_
 clear F2
 rintro ⟨fu,g9⟩ ⟨hl10,F3,hn_g9⟩
 dsimp only at hl10 F3 hn_g9 ⊢
 obtain _ | fu:=fu
 · rw [zcf] at F3;cases F3
 rw [zcf] at F3
 refine zb (za ?_)
 refine s_lt ?_
 refine zf (zd (zb ?_))
 refine zm F3 ?_ ?_<;>intro C11 F4
 refine zM 1 (fun B12=>?_)
 refine zi (zd (zb (zl (zb (za ?_)))))
 refine s_mv ?_
 obtain ⟨v13,V13,F5⟩:=zc F4
 refine zK Rule.row V13 (Rule.row_eq _) yE23 ?_
 refine zam yA37 yS37 ?_
 refine zU yZ37 ?_
 refine s_as ?_
 refine zac yS37 ?_
 refine zf (zd (zb (za ?_)))
 refine s_mv ?_
 refine s_fa zic ?_
 refine zam yA32 yS32 ?_
 refine s_mv ?_
 refine zI yA32 yS32 ?_
 obtain ⟨v14,V14,F6⟩:=zc F5
 refine zv [] (m_impl_match_ok fu _ _ _ _ _ V14) ?_
 refine s_mv ?_
 refine zbf ?_
 refine zbf ?_
 refine s_as ?_
 refine s_as ?_
 refine zf (zd (zb (za ?_)))
 refine s_mv ?_
 refine zf (zd ?_)
 refine zm F6 ?_ ?_<;>intro C15 F7
 refine zb (za ?_)
 refine s_mv ?_
 refine s_as ?_
 refine s_as ?_
 refine zf (zd (zh (zj (zg (zw (zj (zg (zn ?_))))))))
 cases F7
 exact zk [] [] Tryz.results26
 refine zi (zW (zd (za ?_)))
 refine zJ (zas C11 B12 hn_g9) ?_
 refine s_mv ?_
 refine zf ?_
 exact s_rn (fu,(g9+1)) ⟨by first | omega | (dsimp only;omega),F7,by first | omega | (dsimp only;omega)⟩
 refine zy (zq (zo (zr (zd (zb (za ?_))))))
 refine s_as ?_
 refine s_as ?_
 refine zf (zd (zh (zn ?_)))
 cases F4
 exact zk [] [] Tryz.results26
def m_impl_ApplyRules_AC (fuel:Nat):Prop:=∀ (x1:(List Bind)) (x2:(List Rule)) (x3:(List Form)) (x4:Form) (r:(Form × Bool)),zcX fuel x1 x2 x3 x4=some r→AC Tryz.prog 14 [.t (.sl (x1.map Bind.row)),.t (.sl (x2.map Rule.row)),.t (.sl (x3.map Form.row)),.ag [.t (.sc (.int .i64 x4.kind)),.t (.sc (.str x4.name)),.t (.sc (.int .i64 x4.n)),.t (.sl (x4.scopes.map rI)),.t (.sl (x4.kids.map Form.row))]] noOb (.tp [.ag [.t (.sc (.int .i64 r.1.kind)),.t (.sc (.str r.1.name)),.t (.sc (.int .i64 r.1.n)),.t (.sl (r.1.scopes.map rI)),.t (.sl (r.1.kids.map Form.row))],.t (.sc (.bool r.2))]) noOb
theorem zf5 (fuel:Nat):m_impl_ApplyRules_AC fuel:=by
 intro x1 x2 x3 x4 r F0
 unfold zcX at F0
 refine AC_i [.ag [.t (.sc (.int .i64 r.1.kind)),.t (.sc (.str r.1.name)),.t (.sc (.int .i64 r.1.n)),.t (.sl (r.1.scopes.map rI)),.t (.sl (r.1.kids.map Form.row))],.t (.sc (.bool r.2))] Tryz.func14 rfl Tryz.ntmps14 ?_
 intro C hC
 refine zb (za ?_)
 refine zaL ?_
 refine zU yZ32 ?_
 refine s_as ?_
 refine zf (zd (zb (za ?_)))
 iterate 3 refine s_mv ?_
 refine zI yA32 yS32 ?_
 obtain ⟨v1,V1,F1⟩:=zc F0
 refine zv [] (zh3 fuel _ _ _ _ _ V1) ?_
 refine s_mv ?_
 refine zbf ?_
 refine zbf ?_
 refine s_as ?_
 refine s_as ?_
 refine zf (zd (zb (zb (za ?_))))
 refine s_mv ?_
 refine zaY ?_
 refine zf (zd ?_)
 refine zm F1 ?_ ?_<;>intro C2 F2
 refine zb (za ?_)
 refine zgD yZ32 yL32 ?_
 refine zac yS32 ?_
 refine s_as ?_
 refine zf (zd (zh (zg (zn ?_))))
 cases F2
 exact z4 [] [] (by rw [Tryz.results14];exact (zat (by conv=>lhs;whnf) (by conv=>lhs;whnf) yA32 yS32 rfl (zai (by conv=>lhs;whnf) zaf)))
 refine zi (zd (zb ?_))
 refine zO yMix (by kernel_rfl) ?_
 iterate 3 refine s_mv ?_
 obtain ⟨v3,V3,F3⟩:=zc F2
 refine zK Rule.row V3 (Rule.row_eq _) yE23 ?_
 refine s_fa zic ?_
 refine zam yA32 yS32 ?_
 refine s_mv ?_
 refine zI yA32 yS32 ?_
 obtain ⟨v4,V4,F4⟩:=zc F3
 refine zv [] (m_impl_match_ok fuel _ _ _ _ _ V4) ?_
 refine s_mv ?_
 refine zbf ?_
 refine zbf ?_
 refine s_as ?_
 refine s_as ?_
 refine zae (by kernel_rfl) ?_
 refine zd (zb (za ?_))
 refine s_mv ?_
 refine s_mv ?_
 obtain ⟨v5,V5,F5⟩:=zc F4
 refine zK Rule.row V5 (Rule.row_eq _) yE23 ?_
 refine s_fa yF37_1 ?_
 refine zam yA32 yS32 ?_
 refine s_mv ?_
 obtain ⟨v6,V6,F6⟩:=zc F5
 refine zv [] (m_impl_FillTemplate_ok fuel _ _ _ V6) ?_
 refine zbf ?_
 refine zbf ?_
 refine zac yS32 ?_
 refine s_as ?_
 refine zf (zd (zh (zn ?_)))
 cases F6
 exact z4 [] [] (by rw [Tryz.results14];exact (zat (by conv=>lhs;whnf) (by conv=>lhs;whnf) yA32 yS32 rfl (zai (by conv=>lhs;whnf) zaf)))
def m_spec_l15OwnRule_AC (fuel:Nat):Prop:=∀ (x1:Rule) (r:Rule),zf0 fuel x1=some r→AC Tryz.prog 107 [.ag [.t (.sc (.int .i64 x1.pattern.kind)),.t (.sc (.str x1.pattern.name)),.t (.sc (.int .i64 x1.pattern.n)),.t (.sl (x1.pattern.scopes.map rI)),.t (.sl (x1.pattern.kids.map Form.row)),.t (.sc (.int .i64 x1.template.kind)),.t (.sc (.str x1.template.name)),.t (.sc (.int .i64 x1.template.n)),.t (.sl (x1.template.scopes.map rI)),.t (.sl (x1.template.kids.map Form.row))]] noOb (.ag [.t (.sc (.int .i64 r.pattern.kind)),.t (.sc (.str r.pattern.name)),.t (.sc (.int .i64 r.pattern.n)),.t (.sl (r.pattern.scopes.map rI)),.t (.sl (r.pattern.kids.map Form.row)),.t (.sc (.int .i64 r.template.kind)),.t (.sc (.str r.template.name)),.t (.sc (.int .i64 r.template.n)),.t (.sl (r.template.scopes.map rI)),.t (.sl (r.template.kids.map Form.row))]) noOb
theorem m_spec_l15OwnRule_ok (fuel:Nat):m_spec_l15OwnRule_AC fuel:=by
 intro x1 r F0
 unfold zf0 at F0
 refine AC_i [.ag [.t (.sc (.int .i64 r.pattern.kind)),.t (.sc (.str r.pattern.name)),.t (.sc (.int .i64 r.pattern.n)),.t (.sl (r.pattern.scopes.map rI)),.t (.sl (r.pattern.kids.map Form.row)),.t (.sc (.int .i64 r.template.kind)),.t (.sc (.str r.template.name)),.t (.sc (.int .i64 r.template.n)),.t (.sl (r.template.scopes.map rI)),.t (.sl (r.template.kids.map Form.row))]] Tryz.func107 rfl Tryz.ntmps107 ?_
 intro C hC
 refine zb (za ?_)
 refine zaL ?_
 refine zU yZ37 ?_
 refine zf (zd (zb (za ?_)))
 refine s_fa zic ?_
 refine zam yA32 yS32 ?_
 obtain ⟨v1,V1,F1⟩:=zc F0
 refine zv [] (zhJ fuel _ _ V1) ?_
 refine s_fa zic ?_
 refine zia yS32 ?_
 refine zf (zd (zb (za ?_)))
 refine s_fa yF37_1 ?_
 refine zam yA32 yS32 ?_
 obtain ⟨v2,V2,F2⟩:=zc F1
 refine zv [] (zhJ fuel _ _ V2) ?_
 refine s_fa yF37_1 ?_
 refine zia yS32 ?_
 refine zf (zd (zb (za ?_)))
 refine zI yA37 yS37 ?_
 refine zac yS37 ?_
 refine zf (zd (zh (zn ?_)))
 cases F2
 exact z4 [] [] (by rw [Tryz.results107];exact (zat (by conv=>lhs;whnf) (by conv=>lhs;whnf) yA37 yS37 rfl zaf))
def ziG (fuel:Nat):Prop:=∀ (x1:(List Rule)) (r:(List Rule)),zc8 fuel x1=some r→AC Tryz.prog 53 [.t (.sl (x1.map Rule.row))] noOb (.t (.sl (r.map Rule.row))) noOb
theorem ziF (fuel:Nat):ziG fuel:=by
 intro x1 r F0
 unfold zc8 at F0
 refine AC_i [.t (.sl (r.map Rule.row))] Tryz.func53 rfl Tryz.ntmps53 ?_
 intro C hC
 refine zb (za ?_)
 refine s_as ?_
 refine zf (zd (zb (za ?_)))
 refine s_bs Rule.row ([]:List Rule) yP23 yR37 ?_
 refine s_as ?_
 refine zf (zd (zb (zb (za ?_))))
 refine s_mv ?_
 refine zC yU23 ?_
 refine s_mv ?_
 refine zf (zd (zl ?_))
 refine zcZ 3 6 5020 (by conv=>lhs;whnf) (by conv=>lhs;whnf) rfl ?_
 refine zal [3,5,9,10,11,12,13,14,15,16,17,18] [5020] [5,16,17] [5020] (fun a:Nat × (List Rule) × Int=>a.1) (fun a:Nat × (List Rule) × Int=>[(3,.ar 5020),(9,.t (.sc (.int .i64 a.2.2)))]) (fun a:Nat × (List Rule) × Int=>[(5020,.arr (a.2.1.map Rule.row) 37 true)]) (fun a:Nat × (List Rule) × Int=>a.1≤fuel∧zaH a.1 x1 a.2.1 a.2.2=some r∧0≤a.2.2) (fuel,([]:List Rule),0) ⟨Nat.le_refl _,F0,by simp⟩ (by rfl) (by rfl) (fun _=>rfl) (zH (by conv=>lhs;whnf) (by rfl) (zH (by conv=>lhs;whnf) (by rfl) zaV)) (zL (by conv=>lhs;whnf) (by rfl) zaG) (zbM hC rfl) (by repeat (first | exact z6 rfl | refine zaj rfl ?_ | refine zP rfl ?_)) (by repeat (first | exact zax | exact z9 rfl | refine zak rfl ?_ | refine zQ rfl ?_)) ?_
 clear F0
 rintro ⟨fu,g1,g2⟩ ⟨hl3,F1,hn_g2⟩
 dsimp only at hl3 F1 hn_g2 ⊢
 obtain _ | fu:=fu
 · rw [zaH] at F1;cases F1
 rw [zaH] at F1
 refine zb (za ?_)
 refine s_lt ?_
 refine zf (zd (zb ?_))
 refine zm F1 ?_ ?_<;>intro C4 F2
 refine zM 0 (fun B5=>?_)
 refine zi (zd (zb (zl (zb (za ?_)))))
 obtain ⟨v6,V6,F3⟩:=zc F2
 refine zK Rule.row V6 (Rule.row_eq _) yE23 ?_
 refine zam yA37 yS37 ?_
 refine zU yZ37 ?_
 refine zac yS37 ?_
 refine zf (zd (za ?_))
 refine s_mv ?_
 refine zI yA37 yS37 ?_
 obtain ⟨v7,V7,F4⟩:=zc F3
 refine zv [] (m_spec_l15OwnRule_ok fu _ _ V7) ?_
 refine s_bs Rule.row [v7] yP23 yR37 ?_
 obtain ⟨hk8,F5⟩:=zad F4
 refine zek Rule.row (fun y=>Rule.row_len y) hk8 yP23 ?_
 refine s_as ?_
 refine zf (zW (zd (za ?_)))
 refine zJ (zas C4 B5 hn_g2) ?_
 refine s_mv ?_
 refine zf ?_
 exact s_rn (fu,(g1++[v7]),(g2+1)) ⟨by first | omega | (dsimp only;omega),F5,by first | omega | (dsimp only;omega)⟩ [(5020,17)]
 refine zy (zq (zo (zr (zd (zb (za ?_))))))
 refine s_mv ?_
 refine s_as ?_
 refine zf (zd (zh (zn ?_)))
 cases F2
 exact zk [] [5020] Tryz.results53
end Go.Abs
