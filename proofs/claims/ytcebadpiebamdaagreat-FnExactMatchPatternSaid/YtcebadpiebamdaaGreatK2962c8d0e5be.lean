/- A part of the proof: what the functions that the law calls answer, as pure values. -/
import Derived.Test.YtcebadpiebamdaaGreatK006dda84d553
import Derived.Test.YtcebadpiebamdaaGreatKa0dd8db6698e
import Derived.Test.YtcebadpiebamdaaGreatK9fbfde43654d
import Derived.Test.YtcebadpiebamdaaGreatKc219dfa2b982
import Derived.Test.YtcebadpiebamdaaGreatK0c09c3f6594f
set_option linter.unusedSimpArgs false
set_option linter.unusedVariables false
set_option maxRecDepth 100000
set_option maxHeartbeats 4000000
namespace Go.Abs
open Go.Proofs
theorem m_impl_match_D_st (fu:Nat) (ih_m_impl_match_1_D:∀ k,k≤fu→zdZ k) (ih_m_impl_match_D:∀ k,k≤fu→zdL k):zdL (fu+1):=by
 intro x1 x2 x3 x4 r F0
 rw [zcg] at F0
 refine AC_i [.ar 9200,.t (.sc (.bool r.2))] Tryz.func51 rfl Tryz.ntmps51 ?_
 intro C hC
 refine zb (za ?_)
 iterate 4 refine zbo ?_
 refine s_as ?_
 refine s_as ?_
 refine zf (zd (zb (zb (za ?_))))
 refine s_fa zcD ?_
 refine zq yA3 ?_
 refine zf (zd (zl (zb (za ?_))))
 refine s_eq ?_
 refine s_as ?_
 refine zf (zd ?_)
 refine zn F0 ?_ ?_<;>intro C1 F1
 refine zb (zl (zb (za ?_)))
 refine s_fa zbC ?_
 refine zq yA9 ?_
 refine zgj ?_
 refine s_as ?_
 refine zf (zd ?_)
 refine zn F1 ?_ ?_<;>intro C2 F2
 refine zb (za ?_)
 refine s_as ?_
 refine s_as ?_
 refine zf (zd ?_)
 refine zfT 8 9200 88 yI88.choose_spec ?_
 refine zeN 9200 (Hit.rowD 3 37 88) (es:=([]:List Hit).map Hit.row) (by (conv=>lhs;whnf)<;>rfl) rfl ?_
 refine zh (zj (zg (zj (zg (zo ?_)))))
 cases F2
 exact zk _ [] Tryz.results51
 refine zb (za ?_)
 refine zq yA35 ?_
 refine z6 yA37 yS37 ?_
 obtain ⟨v3,V3,F3⟩:=zc F2
 refine zy [] (zeV fu _ _ _ V3) ?_
 refine s_as ?_
 refine zf (zd ?_)
 refine zn F3 ?_ ?_<;>intro C4 F4
 refine zb (za ?_)
 refine zq yA33 ?_
 refine z6 yA37 yS37 ?_
 refine z6 yA37 yS37 ?_
 obtain ⟨v5,V5,F5⟩:=zc F4
 refine zy [] (zfA fu _ _ _ _ V5) ?_
 refine s_as ?_
 refine s_as ?_
 refine zf (zd ?_)
 refine zfT 8 9200 88 yI88.choose_spec ?_
 refine zeN 9200 (Hit.rowD 3 37 88) (es:=([]:List Hit).map Hit.row) (by (conv=>lhs;whnf)<;>rfl) rfl ?_
 refine zh (zj (zg (zj (zg (zo ?_)))))
 cases F5
 exact zk _ [] Tryz.results51
 refine zi (zY (zd (zb ?_)))
 refine zP yMix (by kernel_rfl) ?_
 refine z6 yA37 yS37 ?_
 obtain ⟨v6,V6,F5⟩:=zc F4
 refine zT [(9203,2045),(9204,12045)] [] _ _ (zeM fu _ _ V6) ?_
 refine z6 yA37 yS37 ?_
 obtain ⟨v7,V7,F6⟩:=zc F5
 refine zT [(9203,2047),(9204,12047)] [] _ _ (zeM fu _ _ V7) ?_
 refine s_bld yZ88 yL88 ?_
 refine s_bsD [.sc (.int .i64 v6.kind),.sc (.str v6.name),.sc (.int .i64 v6.n),.any,.any,.sc (.int .i64 0),.sc (.int .i64 v7.kind),.sc (.str v7.name),.sc (.int .i64 v7.n),.any,.any,.sc (.nis 88)] [(0,3,2045),(0,4,12045),(0,9,2047),(0,10,12047)] yP30 ?_
 refine s_as ?_
 refine s_as ?_
 refine zai (by kernel_rfl) ?_
 refine zd ?_
 refine awp_jaA 49 2045 [.sc (.int .i64 v6.kind),.sc (.str v6.name),.sc (.int .i64 v6.n),.ow 3 (v6.scopes.map rI),.any,.sc (.int .i64 0),.sc (.int .i64 v7.kind),.sc (.str v7.name),.sc (.int .i64 v7.n),.any,.any,.sc (.nis 88)] (l:=([]:List Hit)) (row:=(Hit.rowD 3 37 88)) (hm:=by (conv=>lhs;whnf)<;>rfl) ?_
 refine zho 49 12045 [.sc (.int .i64 v6.kind),.sc (.str v6.name),.sc (.int .i64 v6.n),.ow 3 (v6.scopes.map rI),.ow 37 (v6.kids.map (Form.rowD 3 37)),.sc (.int .i64 0),.sc (.int .i64 v7.kind),.sc (.str v7.name),.sc (.int .i64 v7.n),.any,.any,.sc (.nis 88)] (l:=([]:List Hit)) (row:=(Hit.rowD 3 37 88)) (hm:=by (conv=>lhs;whnf)<;>rfl) ?_
 refine awp_jaA 49 2047 [.sc (.int .i64 v6.kind),.sc (.str v6.name),.sc (.int .i64 v6.n),.ow 3 (v6.scopes.map rI),.ow 37 (v6.kids.map (Form.rowD 3 37)),.sc (.int .i64 0),.sc (.int .i64 v7.kind),.sc (.str v7.name),.sc (.int .i64 v7.n),.ow 3 (v7.scopes.map rI),.any,.sc (.nis 88)] (l:=([]:List Hit)) (row:=(Hit.rowD 3 37 88)) (hm:=by (conv=>lhs;whnf)<;>rfl) ?_
 refine zho 49 12047 [.sc (.int .i64 v6.kind),.sc (.str v6.name),.sc (.int .i64 v6.n),.ow 3 (v6.scopes.map rI),.ow 37 (v6.kids.map (Form.rowD 3 37)),.sc (.int .i64 0),.sc (.int .i64 v7.kind),.sc (.str v7.name),.sc (.int .i64 v7.n),.ow 3 (v7.scopes.map rI),.ow 37 (v7.kids.map (Form.rowD 3 37)),.sc (.nis 88)] (l:=([]:List Hit)) (row:=(Hit.rowD 3 37 88)) (hm:=by (conv=>lhs;whnf)<;>rfl) ?_
 refine awp_naN 49 (row:=(Hit.rowD 3 37 88)) (fs:=[.sc (.int .i64 v6.kind),.sc (.str v6.name),.sc (.int .i64 v6.n),.ow 3 (v6.scopes.map rI),.ow 37 (v6.kids.map (Form.rowD 3 37)),.sc (.int .i64 0),.sc (.int .i64 v7.kind),.sc (.str v7.name),.sc (.int .i64 v7.n),.ow 3 (v7.scopes.map rI),.ow 37 (v7.kids.map (Form.rowD 3 37)),.sc (.nis 88)]) (Hit.mk v6 0 v7 ([]:List Hit)) (Hit.rowDE _ _ _ _) (by simp only [List.all_cons,List.all_nil,nisC,yS88,Option.isSome_some,Bool.and_self]) ?_
 refine awp_mvD 8 49 9200 (by conv=>lhs;whnf) (by conv=>lhs;whnf) rfl ?_
 refine zh (zj (zg (zo ?_)))
 cases F6
 exact zk _ [] Tryz.results51
 refine zb (za ?_)
 refine s_eq ?_
 refine s_as ?_
 refine zf (zd ?_)
 refine zn F1 ?_ ?_<;>intro C8 F2
 refine zb (za ?_)
 refine z6 yA37 yS37 ?_
 refine z6 yA37 yS37 ?_
 obtain ⟨v9,V9,F3⟩:=zc F2
 refine zy [] (zfB fu _ _ _ V9) ?_
 refine s_as ?_
 refine s_as ?_
 refine zf (zd ?_)
 refine zfT 8 9200 88 yI88.choose_spec ?_
 refine zeN 9200 (Hit.rowD 3 37 88) (es:=([]:List Hit).map Hit.row) (by (conv=>lhs;whnf)<;>rfl) rfl ?_
 refine zh (zj (zg (zo ?_)))
 cases F3
 exact zk _ [] Tryz.results51
 refine zi (zY (zd (zb (zb (za ?_)))))
 refine s_fa zcD ?_
 refine zq yA3 ?_
 refine s_ne ?_
 refine zf (zd ?_)
 refine zn F2 ?_ ?_<;>intro C10 F3
 refine zb (za ?_)
 refine s_as ?_
 refine s_as ?_
 refine zf (zd ?_)
 refine zfT 8 9200 88 yI88.choose_spec ?_
 refine zeN 9200 (Hit.rowD 3 37 88) (es:=([]:List Hit).map Hit.row) (by (conv=>lhs;whnf)<;>rfl) rfl ?_
 refine zh (zg (zo ?_))
 cases F3
 exact zk _ [] Tryz.results51
 refine zi (zd (zb (za ?_)))
 refine s_bs Hit.row ([]:List Hit) yP30 yR88 ?_
 refine zaN yZ30 ?_
 refine zde yS30 ?_
 refine zf (zd ?_)
 refine zeN 58 (Hit.rowD 3 37 88) (es:=([]:List Hit).map Hit.row) (by (conv=>lhs;whnf)<;>rfl) rfl ?_
 refine zb (za ?_)
 refine s_fn ?_
 refine s_as ?_
 refine zf (zd (zb (za ?_)))
 refine s_fa zJ ?_
 refine zq yA35 ?_
 obtain ⟨v11,V11,F4⟩:=zc F3
 refine zy [] (zgc fu _ _ V11) ?_
 refine s_as ?_
 refine zf (zd (zb (zb (za ?_))))
 refine s_mv ?_
 refine s_lt ?_
 refine zf (zd ?_)
 refine zn F4 ?_ ?_<;>intro C12 F5
 refine zb (zb (za ?_))
 refine s_fa zJ ?_
 refine zq yA35 ?_
 refine zB yU35 ?_
 refine s_fa zJ ?_
 refine zq yA35 ?_
 refine zB yU35 ?_
 refine s_ne ?_
 refine zf (zd ?_)
 refine zn F5 ?_ ?_<;>intro C13 F6
 refine zb (za ?_)
 refine s_as ?_
 refine s_as ?_
 refine zf (zd ?_)
 refine zfT 8 9200 88 yI88.choose_spec ?_
 refine zeN 9200 (Hit.rowD 3 37 88) (es:=([]:List Hit).map Hit.row) (by (conv=>lhs;whnf)<;>rfl) rfl ?_
 refine zh (zg (zg (zo ?_)))
 cases F6
 exact zk _ [] Tryz.results51
 refine zi (zd ?_)
 refine zdr (α:=Nat × (List Hit)) [8,9,13,72,73,74,75,76,77,78,79,80,81,82,83,84,85,86,87,88,89,90,91] [10,58,5040] [] (fun a=>[]) (fun a=>[(10,.box [.ar 5040]),(58,.dead),(5040,.dar (a.2.map (Hit.rowD 3 37 88)) 88)]) (fun a=>a.1≤fu∧zcz a.1  a.2=some r) ?_ ?_
 refine zb (za ?_)
 refine s_fa zJ ?_
 refine zq yA35 ?_
 refine zB yU35 ?_
 refine s_mv ?_
 refine zf (zd (zl ?_))
 refine awp_mvBO 10 58 5040 [.ar 5040] ?_
 refine zap [8,9,13,75,76,77,78,79,80,81,82,83,84,85,86,87,88,89,90,91] [10,5040] [42089] [5040] (fun a:Nat × Int × (List Hit)=>a.1) (fun a:Nat × Int × (List Hit)=>[(75,.t (.sc (.int .i64 a.2.1)))]) (fun a:Nat × Int × (List Hit)=>[(10,.box [.ar 5040]),(5040,.dar (a.2.2.map (Hit.rowD 3 37 88)) 88)]) (fun a:Nat × Int × (List Hit)=>a.1≤fu∧zby a.1 x1 x2 x3 x4 a.2.1 a.2.2=some r∧0≤a.2.1) (fu,0,([]:List Hit)) ⟨Nat.le_refl _,F6,by simp⟩ (by rfl) (by rfl) (fun _=>rfl) (zZ (by conv=>lhs;whnf) (by rfl) zbP) (zQ (by conv=>lhs;whnf) (by rfl) (zQ (by conv=>lhs;whnf) (by rfl) zbp)) (zcP hC rfl) (by repeat (first | exact zah rfl | refine zaA rfl ?_ | refine zab rfl ?_)) (by repeat (first | exact za5 | exact zal rfl | refine zaB rfl ?_ | refine zac rfl ?_)) ?_
 clear F6
 rintro ⟨fu,g14,g15⟩ ⟨hl16,F7,hn_g14⟩
 dsimp only at hl16 F7 hn_g14 ⊢
 obtain _ | fu:=fu
 · rw [zby] at F7;cases F7
 rw [zby] at F7
 refine zb (za ?_)
 refine s_lt ?_
 refine zf (zd (zb ?_))
 refine zn F7 ?_ ?_<;>intro C17 F8
 refine zH 61 (fun B18=>?_)
 refine zi (zd (zb (zl (zb (za ?_)))))
 refine s_mv ?_
 refine s_as ?_
 refine zf (zd (zb ?_))
 refine zP yMix (by kernel_rfl) ?_
 refine s_mv ?_
 refine s_fa zJ ?_
 refine zq yA35 ?_
 refine s_mv ?_
 obtain ⟨v19,V19,F9⟩:=zc F8
 refine zN Form.row V19 (Form.row_eq _) yE35 ?_
 refine zaI yA37 yS37 ?_
 refine s_fa zJ ?_
 refine zq yA35 ?_
 refine s_mv ?_
 obtain ⟨v20,V20,F10⟩:=zc F9
 refine zN Form.row V20 (Form.row_eq _) yE35 ?_
 refine zaI yA37 yS37 ?_
 obtain ⟨v21,V21,F11⟩:=zc F10
 refine zT [(9000,4),(9001,6),(9002,10),(9460,5040),(10460,42089)] [] _ _ (ih_m_impl_match_1_D fu (by omega) _ _ _ _ _ _ V21) ?_
 refine zbh ?_
 refine zai (by kernel_rfl) ?_
 refine zd ?_
 refine zn F11 ?_ ?_<;>intro C22 F12
 refine zb (za ?_)
 refine s_as ?_
 refine s_as ?_
 refine zf (zd ?_)
 refine zfT 8 9200 88 yI88.choose_spec ?_
 refine zeN 9200 (Hit.rowD 3 37 88) (es:=([]:List Hit).map Hit.row) (by (conv=>lhs;whnf)<;>rfl) rfl ?_
 refine zh (zj (zg (zv (zj (zfX (zg (zo ?_)))))))
 cases F12
 exact zk _ [] Tryz.results51
 refine zi (zY (zd (za ?_)))
 refine zE (zaF C17 B18 hn_g14) ?_
 refine s_mv ?_
 refine zf ?_
 exact s_rn (fu,(g14+1),v21.2) ⟨by first | omega | (dsimp only;omega),F12,by first | omega | (dsimp only;omega)⟩ [(5040,42089)]
 refine zA (zr (zp (zu ?_)))
 exact s_jn (fu,g15) ⟨by first | omega | (dsimp only;omega),F8⟩
 clear F6
 rintro ⟨fu,g23⟩ ⟨hl24,F7⟩
 dsimp only at hl24 F7 ⊢
 obtain _ | fu:=fu
 · rw [zcz] at F7;cases F7
 rw [zcz] at F7
 refine zb (za ?_)
 refine zq yA30 ?_
 refine s_as ?_
 refine s_as ?_
 refine zf (zd ?_)
 refine awp_mvD 8 5040 9200 (by conv=>lhs;whnf) (by conv=>lhs;whnf) rfl ?_
 refine zh (zg (zo ?_))
 cases F7
 exact zk _ [] Tryz.results51
 refine zi (zd (zb (za ?_)))
 refine s_fa zJ ?_
 refine zq yA35 ?_
 refine zB yU35 ?_
 refine s_fa zJ ?_
 refine zq yA35 ?_
 refine zB yU35 ?_
 refine zfZ rfl ?_
 refine zfZ rfl ?_
 refine s_as ?_
 refine zf (zd (zb (zb (za ?_))))
 refine s_mv ?_
 refine s_lt ?_
 refine zf (zd ?_)
 refine zn F5 ?_ ?_<;>intro C25 F6
 refine zb (za ?_)
 refine s_as ?_
 refine s_as ?_
 refine zf (zd ?_)
 refine zfT 8 9200 88 yI88.choose_spec ?_
 refine zeN 9200 (Hit.rowD 3 37 88) (es:=([]:List Hit).map Hit.row) (by (conv=>lhs;whnf)<;>rfl) rfl ?_
 refine zh (zg (zo ?_))
 cases F6
 exact zk _ [] Tryz.results51
 refine zi (zd (zb (za ?_)))
 refine s_mv ?_
 refine zfZ rfl ?_
 refine s_as ?_
 refine zf (zd ?_)
 refine zdr (α:=Nat × (List Hit)) [8,9,16,105,106,107,108,109,110,111,112,113,114,115,116,117,118,119,120,121,122] [10,58,5080] [] (fun a=>[]) (fun a=>[(10,.box [.ar 5080]),(58,.dead),(5080,.dar (a.2.map (Hit.rowD 3 37 88)) 88)]) (fun a=>a.1≤fu∧zb8 a.1 x1 x2 x3 x4 v11 a.2=some r) ?_ ?_
 refine zb (za ?_)
 refine s_as ?_
 refine zf (zd (zl ?_))
 refine awp_mvBO 10 58 5080 [.ar 5080] ?_
 refine zap [8,9,16,105,106,107,108,109,110,111,112,113,114,115,116,117,118,119,120,121,122] [10,5080] [42121] [5080] (fun a:Nat × Int × (List Hit)=>a.1) (fun a:Nat × Int × (List Hit)=>[(16,.t (.sc (.int .i64 a.2.1)))]) (fun a:Nat × Int × (List Hit)=>[(10,.box [.ar 5080]),(5080,.dar (a.2.2.map (Hit.rowD 3 37 88)) 88)]) (fun a:Nat × Int × (List Hit)=>a.1≤fu∧zbx a.1 x1 x2 x3 x4 v11 a.2.1 a.2.2=some r) (fu,0,([]:List Hit)) ⟨Nat.le_refl _,F6⟩ (by rfl) (by rfl) (fun _=>rfl) (zZ (by conv=>lhs;whnf) (by rfl) zbP) (zQ (by conv=>lhs;whnf) (by rfl) (zQ (by conv=>lhs;whnf) (by rfl) zbp)) (zcP hC rfl) (by repeat (first | exact zah rfl | refine zaA rfl ?_ | refine zab rfl ?_)) (by repeat (first | exact za5 | exact zal rfl | refine zaB rfl ?_ | refine zac rfl ?_)) ?_
 clear F6
 rintro ⟨fu,g26,g27⟩ ⟨hl28,F7⟩
 dsimp only at hl28 F7 ⊢
 obtain _ | fu:=fu
 · rw [zbx] at F7;cases F7
 rw [zbx] at F7
 refine zb (zb (za ?_))
 refine s_mv ?_
 refine s_mv ?_
 refine s_lt ?_
 refine zf (zd ?_)
 refine zn F7 ?_ ?_<;>intro C29 F8
 refine zi (zd (zb (zl (zb ?_))))
 refine zP yMix (by kernel_rfl) ?_
 refine s_mv ?_
 refine s_fa zJ ?_
 refine zq yA35 ?_
 refine s_mv ?_
 obtain ⟨v30,V30,F9⟩:=zc F8
 refine zN Form.row V30 (Form.row_eq _) yE35 ?_
 refine zaI yA37 yS37 ?_
 refine s_fa zJ ?_
 refine zq yA35 ?_
 refine s_mv ?_
 obtain ⟨v31,V31,F10⟩:=zc F9
 refine zN Form.row V31 (Form.row_eq _) yE35 ?_
 refine zaI yA37 yS37 ?_
 obtain ⟨v32,V32,F11⟩:=zc F10
 refine zT [(9000,4),(9001,6),(9002,10),(9460,5080),(10460,42121)] [] _ _ (ih_m_impl_match_1_D fu (by omega) _ _ _ _ _ _ V32) ?_
 refine zbh ?_
 refine zai (by kernel_rfl) ?_
 refine zd ?_
 refine zn F11 ?_ ?_<;>intro C33 F12
 refine zb (za ?_)
 refine s_as ?_
 refine s_as ?_
 refine zf (zd ?_)
 refine zfT 8 9200 88 yI88.choose_spec ?_
 refine zeN 9200 (Hit.rowD 3 37 88) (es:=([]:List Hit).map Hit.row) (by (conv=>lhs;whnf)<;>rfl) rfl ?_
 refine zh (zj (zg (zv (zj (zfX (zo ?_))))))
 cases F12
 exact zk _ [] Tryz.results51
 refine zi (zY (zd (za ?_)))
 refine s_mv ?_
 refine zE rfl ?_
 refine s_as ?_
 refine zf ?_
 exact s_rn (fu,(w64 (g26+1)),v32.2) ⟨by first | omega | (dsimp only;omega),F12⟩ [(5080,42121)]
 refine zA (zr (zp (zu ?_)))
 exact s_jn (fu,g27) ⟨by first | omega | (dsimp only;omega),F8⟩
 clear F6
 rintro ⟨fu,g34⟩ ⟨hl35,F7⟩
 dsimp only at hl35 F7 ⊢
 obtain _ | fu:=fu
 · rw [zb8] at F7;cases F7
 rw [zb8] at F7
 refine zb ?_
 refine zP yMix (by kernel_rfl) ?_
 refine s_fa zJ ?_
 refine zq yA35 ?_
 refine s_mv ?_
 obtain ⟨v36,V36,F8⟩:=zc F7
 refine zN Form.row V36 (Form.row_eq _) yE35 ?_
 refine zaI yA37 yS37 ?_
 refine zq yA35 ?_
 obtain ⟨v37,V37,F9⟩:=zc F8
 refine zT [(9200,2130)] [] _ _ (zgb fu _ _ _ V37) ?_
 refine s_mv ?_
 refine zdv ?_
 refine zdv ?_
 refine s_as ?_
 refine s_as ?_
 refine zai (by kernel_rfl) ?_
 refine zd (zb (za ?_))
 refine s_bs Hit.row ([]:List Hit) yP30 yR88 ?_
 refine s_as ?_
 refine zf (zd ?_)
 refine zeN 133 (Hit.rowD 3 37 88) (es:=([]:List Hit).map Hit.row) (by (conv=>lhs;whnf)<;>rfl) rfl ?_
 refine zdr (α:=Nat × (List Hit)) [19,20,21,134,135,136,137,138,139,140,141,142,143,144,145,146,147,148,149,150,151,152] [133,5120] [] (fun a=>[(19,.ar 5120)]) (fun a=>[(133,.dead),(5120,.dar (a.2.map (Hit.rowD 3 37 88)) 88)]) (fun a=>a.1≤fu∧zb7 a.1 x1 x2 x3 x4 v11 g34 a.2=some r) ?_ ?_
 refine zb (za ?_)
 refine s_mv ?_
 refine s_lenA yU35 ?_
 refine s_mv ?_
 refine zf (zd (zl ?_))
 refine awp_mvD 19 133 5120 (by conv=>lhs;whnf) (by conv=>lhs;whnf) rfl ?_
 refine zap [19,20,21,136,137,138,139,140,141,142,143,144,145,146,147,148,149,150,151,152] [5120] [21,150,151,2143,12143] [5120] (fun a:Nat × (List Hit) × Int=>a.1) (fun a:Nat × (List Hit) × Int=>[(19,.ar 5120),(136,.t (.sc (.int .i64 a.2.2)))]) (fun a:Nat × (List Hit) × Int=>[(5120,.dar (a.2.1.map (Hit.rowD 3 37 88)) 88)]) (fun a:Nat × (List Hit) × Int=>a.1≤fu∧za3 a.1 x1 x2 x3 x4 v11 g34 v37 a.2.1 a.2.2=some r∧0≤a.2.2) (fu,([]:List Hit),0) ⟨Nat.le_refl _,F9,by simp⟩ (by rfl) (by rfl) (fun _=>rfl) (zZ (by conv=>lhs;whnf) (by rfl) (zZ (by conv=>lhs;whnf) (by rfl) zbP)) (zQ (by conv=>lhs;whnf) (by rfl) zbp) (zcP hC rfl) (by repeat (first | exact zah rfl | refine zaA rfl ?_ | refine zab rfl ?_)) (by repeat (first | exact za5 | exact zal rfl | refine zaB rfl ?_ | refine zac rfl ?_)) ?_
 clear F9
 rintro ⟨fu,g38,g39⟩ ⟨hl40,F10,hn_g39⟩
 dsimp only at hl40 F10 hn_g39 ⊢
 obtain _ | fu:=fu
 · rw [za3] at F10;cases F10
 rw [za3] at F10
 refine zb (za ?_)
 refine s_lt ?_
 refine zf (zd (zb ?_))
 refine zn F10 ?_ ?_<;>intro C41 F11
 refine awp_lenA 17 2130 (fun B42=>?_)
 refine zi (zd (zb (zl (zb (za ?_)))))
 refine s_mv ?_
 obtain ⟨v43,V43,F12⟩:=zc F11
 refine s_ixA Form.row V43 yE35 ?_
 refine s_lAN Form.row V43 (Form.row_eq _) yA37 yS37 ?_
 refine zaN yZ37 ?_
 refine s_as ?_
 refine zde yS37 ?_
 refine zf (zd ?_)
 refine zP yMix (by kernel_rfl) ?_
 refine s_mv0 ?_
 refine z6 yA37 yS37 ?_
 obtain ⟨v44,V44,F13⟩:=zc F12
 refine zT [(9203,2143),(9204,12143)] [] _ _ (zeM fu _ _ V44) ?_
 refine s_mv ?_
 refine s_mv ?_
 obtain ⟨v45,V45,F14⟩:=zc F13
 refine zN rI V45 rfl yE23 ?_
 refine zq yA3 ?_
 refine zE rfl ?_
 refine s_bld yZ88 yL88 ?_
 refine s_bsD [.sc (.int .i64 v44.kind),.sc (.str v44.name),.sc (.int .i64 v44.n),.any,.any,.sc (.int .i64 (w64 (v45+1))),.sc (.int .i64 0),.sc (.str (⟨#[]⟩:ByteArray)),.sc (.int .i64 0),.sc (.nis 3),.sc (.nis 37),.sc (.nis 88)] [(0,3,2143),(0,4,12143)] yP30 ?_
 obtain ⟨hk46,F15⟩:=zat F14
 refine s_apH (Hit.rowD 3 37 88) [(g38.length,3,2143),(g38.length,4,12143)] hk46 yP30 ?_
 refine s_as ?_
 refine zai (by kernel_rfl) ?_
 refine zY (zd ?_)
 refine awp_jaA 151 2143 [.sc (.int .i64 v44.kind),.sc (.str v44.name),.sc (.int .i64 v44.n),.ow 3 (v44.scopes.map rI),.any,.sc (.int .i64 (w64 (v45+1))),.sc (.int .i64 0),.sc (.str (⟨#[]⟩:ByteArray)),.sc (.int .i64 0),.sc (.nis 3),.sc (.nis 37),.sc (.nis 88)] ?_
 refine zho 151 12143 [.sc (.int .i64 v44.kind),.sc (.str v44.name),.sc (.int .i64 v44.n),.ow 3 (v44.scopes.map rI),.ow 37 (v44.kids.map (Form.rowD 3 37)),.sc (.int .i64 (w64 (v45+1))),.sc (.int .i64 0),.sc (.str (⟨#[]⟩:ByteArray)),.sc (.int .i64 0),.sc (.nis 3),.sc (.nis 37),.sc (.nis 88)] ?_
 refine awp_naN 151 (row:=(Hit.rowD 3 37 88)) (fs:=[.sc (.int .i64 v44.kind),.sc (.str v44.name),.sc (.int .i64 v44.n),.ow 3 (v44.scopes.map rI),.ow 37 (v44.kids.map (Form.rowD 3 37)),.sc (.int .i64 (w64 (v45+1))),.sc (.int .i64 0),.sc (.str (⟨#[]⟩:ByteArray)),.sc (.int .i64 0),.sc (.nis 3),.sc (.nis 37),.sc (.nis 88)]) (Hit.mk v44 (w64 (v45+1)) (Form.mk 0 (⟨#[]⟩:ByteArray) 0 ([]:List Int) ([]:List Form)) ([]:List Hit)) (Hit.rowDE _ _ _ _) (by simp only [List.all_cons,List.all_nil,nisC,yS3,yS37,yS88,Option.isSome_some,Bool.and_self]) ?_
 refine za ?_
 refine zE (zaF C41 B42 hn_g39) ?_
 refine s_mv ?_
 refine zf ?_
 exact s_rn (fu,(g38++[(Hit.mk v44 (w64 (v45+1)) (Form.mk 0 (⟨#[]⟩:ByteArray) 0 ([]:List Int) ([]:List Form)) ([]:List Hit))]),(g39+1)) ⟨by first | omega | (dsimp only;omega),F15,by first | omega | (dsimp only;omega)⟩ [(5120,151)]
 refine zA (zr (zp (zu ?_)))
 exact s_jn (fu,g38) ⟨by first | omega | (dsimp only;omega),F11⟩
 clear F9
 rintro ⟨fu,g47⟩ ⟨hl48,F10⟩
 dsimp only at hl48 F10 ⊢
 obtain _ | fu:=fu
 · rw [zb7] at F10;cases F10
 rw [zb7] at F10
 refine zdr (α:=Nat × (List Hit)) [8,9,23,24,25,26,153,154,155,156,157,158,159,160,161,162,163,164,165,166,167,168,169,170,171,172,173,174,175,176,177,178,179,180,181,182,183,184,185,186,187,188,189,190,191,192,193,194,195,196,197,198,199,200] [5120] [] (fun a=>[]) (fun a=>[(5120,.dar (a.2.map (Hit.rowD 3 37 88)) 88)]) (fun a=>a.1≤fu∧zbT a.1 x1 x2 x3 x4 v11 g34 a.2=some r) ?_ ?_
 refine zb (za ?_)
 refine s_fa zJ ?_
 refine zq yA35 ?_
 iterate 3 refine s_mv ?_
 refine zE rfl ?_
 obtain ⟨v49,V49,F11⟩:=zc F10
 refine s_sl11 Form.row (fun y=>Form.row_len y) V49 yU35 yE35 ?_
 refine zB yU35 ?_
 refine s_mv ?_
 refine zf (zd (zl ?_))
 refine zaE (β:=Int × (List Hit)) [8,9,23,24,25,26,161,162,163,164,165,166,167,168,169,170,171,172,173,174,175,176,177,178,179,180,181,182,183,184,185,186,187,188,189,190,191,192,193,194,195,196,197,198,199,200] [5120] [23,2174] (fun a=>[(161,.t (.sc (.int .i64 a.2.1)))]) (fun a=>[(5120,.dar (a.2.2.map (Hit.rowD 3 37 88)) 88)]) (fun a=>a.1≤fu∧zaP a.1 x1 x2 x3 x4 v11 g34 v49 a.2.1 a.2.2=some r) (fu,0,g47) ⟨Nat.le_refl _,F11⟩ ?_
 clear F11
 rintro ⟨fu,g50,g51⟩ ⟨hl52,F12⟩
 dsimp only at hl52 F12 ⊢
 obtain _ | fu:=fu
 · rw [zaP] at F12;cases F12
 rw [zaP] at F12
 refine zb (za ?_)
 refine s_lt ?_
 refine zf (zd (zb ?_))
 refine zn F12 ?_ ?_<;>intro C53 F13
 refine zH 159 (fun B54=>?_)
 refine zi (zd (zb (zl (zb (za ?_)))))
 obtain ⟨v55,V55,F14⟩:=zc F13
 refine zN Form.row V55 (Form.row_eq _) yE35 ?_
 refine zaI yA37 yS37 ?_
 refine zaN yZ37 ?_
 refine zde yS37 ?_
 refine zf (zd (zb ?_))
 refine zP yMix (by kernel_rfl) ?_
 refine zq yA33 ?_
 refine s_fa zJ ?_
 refine zq yA35 ?_
 refine s_mv ?_
 obtain ⟨v56,V56,F15⟩:=zc F14
 refine zN Form.row V56 (Form.row_eq _) yE35 ?_
 refine zaI yA37 yS37 ?_
 refine zq yA35 ?_
 refine z6 yA37 yS37 ?_
 obtain ⟨v57,V57,F16⟩:=zc F15
 refine zT [(9200,2174)] [] _ _ (ih_m_impl_match_D fu (by omega) _ _ _ _ _ V57) ?_
 refine s_mv ?_
 refine zdv ?_
 refine zdv ?_
 refine s_as ?_
 refine s_as ?_
 refine zai (by kernel_rfl) ?_
 refine zd (zb (zb (za ?_)))
 refine s_mv ?_
 refine zbh ?_
 refine zf (zd ?_)
 refine zn F16 ?_ ?_<;>intro C58 F17
 refine zb (za ?_)
 refine s_as ?_
 refine s_as ?_
 refine zf (zd ?_)
 refine zfT 8 9200 88 yI88.choose_spec ?_
 refine zeN 9200 (Hit.rowD 3 37 88) (es:=([]:List Hit).map Hit.row) (by (conv=>lhs;whnf)<;>rfl) rfl ?_
 refine zh (zg (zj (zg (zv (zj (zfX (zo ?_)))))))
 cases F17
 exact zk _ [] Tryz.results51
 refine zi (zd (zb (za ?_)))
 refine s_mv ?_
 refine s_lenD yU30 ?_
 refine s_mv ?_
 refine zf (zd (zl ?_))
 refine awp_mixT 2174 (r0:=(Hit.rowD 3 37 88)) (fun y=>((Hit.rowD 3 37 88) y).map T.tk) v57.1 ?_
 refine zaE (β:=Int × (List Hit)) [26,181,182,183,184,185,186,187,188,189,190,191,192,193,194,195,196,197,198,199] [2174,5120] [188,194,195,53843,53844,53849,53850,53851] (fun a=>[(181,.t (.sc (.int .i64 a.2.1)))]) (fun a=>[(2174,.dar (mixR (Hit.rowD 3 37 88) (fun y=>((Hit.rowD 3 37 88) y).map T.tk) (a.2.1).toNat v57.1) 88),(5120,.dar (a.2.2.map (Hit.rowD 3 37 88)) 88)]) (fun a=>a.1≤fu∧za2 a.1 x1 x2 x3 x4 v11 g34 v49 g50 g51 v57 a.2.1 a.2.2=some r) (fu,0,g51) ⟨Nat.le_refl _,F17⟩ ?_
 clear F17
 rintro ⟨fu,g59,g60⟩ ⟨hl61,F18⟩
 dsimp only at hl61 F18 ⊢
 obtain _ | fu:=fu
 · rw [za2] at F18;cases F18
 rw [za2] at F18
 refine zb (za ?_)
 refine s_lt ?_
 refine zf (zd (zb ?_))
 refine zn F18 ?_ ?_<;>intro C62 F19
 refine zi (zd (zb (zl (zb (za ?_)))))
 refine s_mv ?_
 refine s_as ?_
 refine zf (zd ?_)
 refine zP yMix (by kernel_rfl) ?_
 refine s_mv0 ?_
 refine s_mv ?_
 obtain ⟨v63,V63,F20⟩:=zc F19
 refine zgi (Hit.rowD 3 37 88) V63 yE30 ?_
 refine s_fa zgD ?_
 refine s_ldHD (Hit.rowD 3 37 88) (Hit.rowD 3 37 88) v63.many V63 yA30 yS88 (hw:=by rw [(Hit.rowDE _ _ _ _)];rfl) ?_
 refine s_mv0 ?_
 refine s_mv ?_
 obtain ⟨v64,V64,F21⟩:=zc F20
 refine s_ixM (Hit.rowD 3 37 88) (fun y=>((Hit.rowD 3 37 88) y).map T.tk) V64 yE30 ?_
 refine s_ldT (i:=g59.toNat) (es:=mixR (Hit.rowD 3 37 88) (fun y=>((Hit.rowD 3 37 88) y).map T.tk) g59.toNat v57.1) (es2:=mixR (Hit.rowD 3 37 88) (fun y=>((Hit.rowD 3 37 88) y).map T.tk) (g59.toNat+1) v57.1) [(3,53843,3,v64.name.scopes.map rI),(4,53844,37,v64.name.kids.map (Form.rowD 3 37)),(9,53849,3,v64.one.scopes.map rI),(10,53850,37,v64.one.kids.map (Form.rowD 3 37)),(11,53851,88,v64.many.map (Hit.rowD 3 37 88))] [.sc (.int .i64 v64.name.kind),.sc (.str v64.name.name),.sc (.int .i64 v64.name.n),.ow 3 (v64.name.scopes.map rI),.ow 37 (v64.name.kids.map (Form.rowD 3 37)),.sc (.int .i64 v64.depth),.sc (.int .i64 v64.one.kind),.sc (.str v64.one.name),.sc (.int .i64 v64.one.n),.ow 3 (v64.one.scopes.map rI),.ow 37 (v64.one.kids.map (Form.rowD 3 37)),.ow 88 (v64.many.map (Hit.rowD 3 37 88))] [.t (.sc (.int .i64 v64.name.kind)),.t (.sc (.str v64.name.name)),.t (.sc (.int .i64 v64.name.n)),.ar 53843,.ar 53844,.t (.sc (.int .i64 v64.depth)),.t (.sc (.int .i64 v64.one.kind)),.t (.sc (.str v64.one.name)),.t (.sc (.int .i64 v64.one.n)),.ar 53849,.ar 53850,.ar 53851] (by rw [mixR_get _ _ (zbO V64).2.2];exact congrArg some (Hit.rowDE _ _ _ _)) (Eq.trans (congrArg ((mixR (Hit.rowD 3 37 88) (fun y=>((Hit.rowD 3 37 88) y).map T.tk) g59.toNat v57.1).set g59.toNat) (show tkRow [.sc (.int .i64 v64.name.kind),.sc (.str v64.name.name),.sc (.int .i64 v64.name.n),.ow 3 (v64.name.scopes.map rI),.ow 37 (v64.name.kids.map (Form.rowD 3 37)),.sc (.int .i64 v64.depth),.sc (.int .i64 v64.one.kind),.sc (.str v64.one.name),.sc (.int .i64 v64.one.n),.ow 3 (v64.one.scopes.map rI),.ow 37 (v64.one.kids.map (Form.rowD 3 37)),.ow 88 (v64.many.map (Hit.rowD 3 37 88))] [(3,53843,3,v64.name.scopes.map rI),(4,53844,37,v64.name.kids.map (Form.rowD 3 37)),(9,53849,3,v64.one.scopes.map rI),(10,53850,37,v64.one.kids.map (Form.rowD 3 37)),(11,53851,88,v64.many.map (Hit.rowD 3 37 88))]=((Hit.rowD 3 37 88) v64).map T.tk by rw [(Hit.rowDE _ _ _ _)];rfl)) (mixR_id _ _ (zbO V64).2.2)) yA88 yS88 yS88 (hL:=by simp only [List.mem_cons,List.not_mem_nil,or_false,forall_eq_or_imp,forall_eq];exact ⟨rfl,rfl,rfl,rfl,rfl⟩) (hd:=by simp only [List.mem_cons,List.not_mem_nil,or_false,forall_eq_or_imp,forall_eq];exact ⟨rfl,rfl,rfl,rfl,rfl⟩) ?_
 refine s_lenD yU30 ?_
 refine s_bsD [.sc (.int .i64 0),.sc (.str (⟨#[]⟩:ByteArray)),.sc (.int .i64 0),.sc (.nis 3),.sc (.nis 37),.sc (.int .i64 0),.sc (.int .i64 0),.sc (.str (⟨#[]⟩:ByteArray)),.sc (.int .i64 0),.sc (.nis 3),.sc (.nis 37),.sc (.nis 88)] [] yP30 ?_
 obtain ⟨hk65,F22⟩:=zat F21
 refine s_apH (Hit.rowD 3 37 88) [] hk65 yP30 ?_
 obtain ⟨v66,V66,F23⟩:=zc F22
 refine s_ixO (j:=(v63.many.length:Int)) (e':=88) (es:=v63.many.map (Hit.rowD 3 37 88)++[[.sc (.int .i64 0),.sc (.str (⟨#[]⟩:ByteArray)),.sc (.int .i64 0),.sc (.nis 3),.sc (.nis 37),.sc (.int .i64 0),.sc (.int .i64 0),.sc (.str (⟨#[]⟩:ByteArray)),.sc (.int .i64 0),.sc (.nis 3),.sc (.nis 37),.sc (.nis 88)]]) (by omega) (by simp) yE30 ?_
 refine s_stR (es:=v63.many.map (Hit.rowD 3 37 88)++[[.sc (.int .i64 0),.sc (.str (⟨#[]⟩:ByteArray)),.sc (.int .i64 0),.sc (.nis 3),.sc (.nis 37),.sc (.int .i64 0),.sc (.int .i64 0),.sc (.str (⟨#[]⟩:ByteArray)),.sc (.int .i64 0),.sc (.nis 3),.sc (.nis 37),.sc (.nis 88)]]) (i:=((v63.many.length:Int)).toNat) (es2:=v63.many.map (Hit.rowD 3 37 88)++[[.sc (.int .i64 v64.name.kind),.sc (.str v64.name.name),.sc (.int .i64 v64.name.n),.any,.any,.sc (.int .i64 v64.depth),.sc (.int .i64 v64.one.kind),.sc (.str v64.one.name),.sc (.int .i64 v64.one.n),.any,.any,.any]]) [.sc (.int .i64 v64.name.kind),.sc (.str v64.name.name),.sc (.int .i64 v64.name.n),.any,.any,.sc (.int .i64 v64.depth),.sc (.int .i64 v64.one.kind),.sc (.str v64.one.name),.sc (.int .i64 v64.one.n),.any,.any,.any] [(v63.many.length,3,53843),(v63.many.length,4,53844),(v63.many.length,9,53849),(v63.many.length,10,53850),(v63.many.length,11,53851)] (by simp) (by simp) yS88 yS88 ?_
 obtain ⟨v67,V67,F24⟩:=zc F23
 refine s_ixO (j:=g59) (e':=88) (es:=(g60.map (Hit.rowD 3 37 88)).set g59.toNat (((Hit.rowD 3 37 88) v63).set 11 .any)) (zbO V63).1 (by rw [List.length_set,List.length_map];have:=zbO V63;omega) yE30 ?_
 refine s_fa zgD ?_
 refine s_stL (es:=(g60.map (Hit.rowD 3 37 88)).set g59.toNat (((Hit.rowD 3 37 88) v63).set 11 .any)) (i:=g59.toNat) (fs:=((Hit.rowD 3 37 88) v63).set 11 .any) (off:=11) (by rw [List.getElem?_set_self];rw [List.length_map];have:=zbO V63;omega) (by rw [(Hit.rowDE _ _ _ _)];rfl) yS30 yS88 ?_
 refine zai (by kernel_rfl) ?_
 refine zY (zd ?_)
 refine awp_mixS 2174 (r0:=(Hit.rowD 3 37 88)) (r1:=(fun y=>((Hit.rowD 3 37 88) y).map T.tk)) V64 ?_
 refine zho 195 53843 [.sc (.int .i64 v64.name.kind),.sc (.str v64.name.name),.sc (.int .i64 v64.name.n),.ow 3 (v64.name.scopes.map rI),.any,.sc (.int .i64 v64.depth),.sc (.int .i64 v64.one.kind),.sc (.str v64.one.name),.sc (.int .i64 v64.one.n),.any,.any,.any] ?_
 refine zho 195 53844 [.sc (.int .i64 v64.name.kind),.sc (.str v64.name.name),.sc (.int .i64 v64.name.n),.ow 3 (v64.name.scopes.map rI),.ow 37 (v64.name.kids.map (Form.rowD 3 37)),.sc (.int .i64 v64.depth),.sc (.int .i64 v64.one.kind),.sc (.str v64.one.name),.sc (.int .i64 v64.one.n),.any,.any,.any] ?_
 refine zho 195 53849 [.sc (.int .i64 v64.name.kind),.sc (.str v64.name.name),.sc (.int .i64 v64.name.n),.ow 3 (v64.name.scopes.map rI),.ow 37 (v64.name.kids.map (Form.rowD 3 37)),.sc (.int .i64 v64.depth),.sc (.int .i64 v64.one.kind),.sc (.str v64.one.name),.sc (.int .i64 v64.one.n),.ow 3 (v64.one.scopes.map rI),.any,.any] ?_
 refine zho 195 53850 [.sc (.int .i64 v64.name.kind),.sc (.str v64.name.name),.sc (.int .i64 v64.name.n),.ow 3 (v64.name.scopes.map rI),.ow 37 (v64.name.kids.map (Form.rowD 3 37)),.sc (.int .i64 v64.depth),.sc (.int .i64 v64.one.kind),.sc (.str v64.one.name),.sc (.int .i64 v64.one.n),.ow 3 (v64.one.scopes.map rI),.ow 37 (v64.one.kids.map (Form.rowD 3 37)),.any] ?_
 refine zho 195 53851 [.sc (.int .i64 v64.name.kind),.sc (.str v64.name.name),.sc (.int .i64 v64.name.n),.ow 3 (v64.name.scopes.map rI),.ow 37 (v64.name.kids.map (Form.rowD 3 37)),.sc (.int .i64 v64.depth),.sc (.int .i64 v64.one.kind),.sc (.str v64.one.name),.sc (.int .i64 v64.one.n),.ow 3 (v64.one.scopes.map rI),.ow 37 (v64.one.kids.map (Form.rowD 3 37)),.ow 88 (v64.many.map (Hit.rowD 3 37 88))] ?_
 refine awp_naZ 195 (row:=(Hit.rowD 3 37 88)) (fs:=[.sc (.int .i64 v64.name.kind),.sc (.str v64.name.name),.sc (.int .i64 v64.name.n),.ow 3 (v64.name.scopes.map rI),.ow 37 (v64.name.kids.map (Form.rowD 3 37)),.sc (.int .i64 v64.depth),.sc (.int .i64 v64.one.kind),.sc (.str v64.one.name),.sc (.int .i64 v64.one.n),.ow 3 (v64.one.scopes.map rI),.ow 37 (v64.one.kids.map (Form.rowD 3 37)),.ow 88 (v64.many.map (Hit.rowD 3 37 88))]) v64 (Hit.mk (Form.mk 0 (⟨#[]⟩:ByteArray) 0 ([]:List Int) ([]:List Form)) 0 (Form.mk 0 (⟨#[]⟩:ByteArray) 0 ([]:List Int) ([]:List Form)) ([]:List Hit)) (Hit.rowDE _ _ _ _) ?_
 refine awp_jsD 5120 195 [.sc (.int .i64 v63.name.kind),.sc (.str v63.name.name),.sc (.int .i64 v63.name.n),.ow 3 (v63.name.scopes.map rI),.ow 37 (v63.name.kids.map (Form.rowD 3 37)),.sc (.int .i64 v63.depth),.sc (.int .i64 v63.one.kind),.sc (.str v63.one.name),.sc (.int .i64 v63.one.n),.ow 3 (v63.one.scopes.map rI),.ow 37 (v63.one.kids.map (Form.rowD 3 37)),.ow 88 (((v63.many++[(Hit.mk (Form.mk 0 (⟨#[]⟩:ByteArray) 0 ([]:List Int) ([]:List Form)) 0 (Form.mk 0 (⟨#[]⟩:ByteArray) 0 ([]:List Int) ([]:List Form)) ([]:List Hit))]).set (v63.many.length:Int).toNat v64).map (Hit.rowD 3 37 88))] V63 (row:=(Hit.rowD 3 37 88)) (hj:=by rw [(Hit.rowDE _ _ _ _)];rfl) (hf:=by rw [(Hit.rowDE _ _ _ _)];rfl) ?_
 refine zgA 5120 (row:=(Hit.rowD 3 37 88)) (fs:=[.sc (.int .i64 v63.name.kind),.sc (.str v63.name.name),.sc (.int .i64 v63.name.n),.ow 3 (v63.name.scopes.map rI),.ow 37 (v63.name.kids.map (Form.rowD 3 37)),.sc (.int .i64 v63.depth),.sc (.int .i64 v63.one.kind),.sc (.str v63.one.name),.sc (.int .i64 v63.one.n),.ow 3 (v63.one.scopes.map rI),.ow 37 (v63.one.kids.map (Form.rowD 3 37)),.ow 88 (((v63.many++[(Hit.mk (Form.mk 0 (⟨#[]⟩:ByteArray) 0 ([]:List Int) ([]:List Form)) 0 (Form.mk 0 (⟨#[]⟩:ByteArray) 0 ([]:List Int) ([]:List Form)) ([]:List Hit))]).set (v63.many.length:Int).toNat v64).map (Hit.rowD 3 37 88))]) (Hit.mk v63.name v63.depth v63.one ((v63.many++[(Hit.mk (Form.mk 0 (⟨#[]⟩:ByteArray) 0 ([]:List Int) ([]:List Form)) 0 (Form.mk 0 (⟨#[]⟩:ByteArray) 0 ([]:List Int) ([]:List Form)) ([]:List Hit))]).set (v63.many.length:Int).toNat v64)) (Hit.rowDE _ _ _ _) ?_
 refine za ?_
 refine zE rfl ?_
 refine s_mv ?_
 refine zf ?_
 exact s_rn (fu,(w64 (g59+1)),(g60.set g59.toNat (Hit.mk v63.name v63.depth v63.one ((v63.many++[(Hit.mk (Form.mk 0 (⟨#[]⟩:ByteArray) 0 ([]:List Int) ([]:List Form)) 0 (Form.mk 0 (⟨#[]⟩:ByteArray) 0 ([]:List Int) ([]:List Form)) ([]:List Hit))]).set (v63.many.length:Int).toNat v64)))) ⟨by first | omega | (dsimp only;omega),F24⟩
 refine zA (zr (zp (zu (zY (zd ?_)))))
 refine awp_kill 2174 rfl ?_
 refine za ?_
 refine zE rfl ?_
 refine s_mv ?_
 refine zf ?_
 exact s_rn (fu,(w64 (g50+1)),g60) ⟨by first | omega | (dsimp only;omega),F19⟩
 refine zA (zr (zp (zu ?_)))
 exact s_jn (fu,g51) ⟨by first | omega | (dsimp only;omega),F13⟩
 clear F10
 rintro ⟨fu,g68⟩ ⟨hl69,F11⟩
 dsimp only at hl69 F11 ⊢
 obtain _ | fu:=fu
 · rw [zbT] at F11;cases F11
 rw [zbT] at F11
 refine zb (za ?_)
 refine zq yA30 ?_
 refine s_mv ?_
 obtain ⟨hk70,F12⟩:=zat F11
 refine s_apO (Hit.rowD 3 37 88) hk70 yP30 ?_
 refine zde yS30 ?_
 refine zf (zd (zb (zb (za ?_))))
 refine s_mv ?_
 refine zE rfl ?_
 refine s_as ?_
 refine zf (zd (zl ?_))
 refine awp_mvBO 10 203 5200 [.ar 5200] ?_
 refine zap [8,9,27,206,207,208,209,210,211,212,213,214,215,216,217,218,219,220,221,222,223,224,225,226,227,228,229,230,231,232] [10,5200] [42231] [5200] (fun a:Nat × Int × (List Hit)=>a.1) (fun a:Nat × Int × (List Hit)=>[(27,.t (.sc (.int .i64 a.2.1)))]) (fun a:Nat × Int × (List Hit)=>[(10,.box [.ar 5200]),(5200,.dar (a.2.2.map (Hit.rowD 3 37 88)) 88)]) (fun a:Nat × Int × (List Hit)=>a.1≤fu∧za4 a.1 x1 x2 x3 x4 v11 a.2.1 a.2.2=some r) (fu,(w64 (v11+1)),(g34++g68)) ⟨Nat.le_refl _,F12⟩ (by rfl) (by rfl) (fun _=>rfl) (zZ (by conv=>lhs;whnf) (by rfl) zbP) (zQ (by conv=>lhs;whnf) (by rfl) (zQ (by conv=>lhs;whnf) (by rfl) zbp)) (zcP hC rfl) (by repeat (first | exact zah rfl | refine zaA rfl ?_ | refine zab rfl ?_)) (by repeat (first | exact za5 | exact zal rfl | refine zaB rfl ?_ | refine zac rfl ?_)) ?_
 clear F12
 rintro ⟨fu,g71,g72⟩ ⟨hl73,F13⟩
 dsimp only at hl73 F13 ⊢
 obtain _ | fu:=fu
 · rw [za4] at F13;cases F13
 rw [za4] at F13
 refine zb (zb (za ?_))
 refine s_mv ?_
 refine s_fa zJ ?_
 refine zq yA35 ?_
 refine zB yU35 ?_
 refine s_lt ?_
 refine zf (zd ?_)
 refine zn F13 ?_ ?_<;>intro C74 F14
 refine zH 61 (fun B75=>?_)
 refine zi (zd (zb (zl (zb ?_))))
 refine zP yMix (by kernel_rfl) ?_
 refine s_mv ?_
 refine s_fa zJ ?_
 refine zq yA35 ?_
 refine s_mv ?_
 obtain ⟨v76,V76,F15⟩:=zc F14
 refine zN Form.row V76 (Form.row_eq _) yE35 ?_
 refine zaI yA37 yS37 ?_
 refine s_fa zJ ?_
 refine zq yA35 ?_
 refine s_mv ?_
 refine s_mv ?_
 refine zE rfl ?_
 refine s_mv ?_
 refine zE rfl ?_
 refine s_mv ?_
 refine zfZ rfl ?_
 refine zfZ rfl ?_
 obtain ⟨v77,V77,F16⟩:=zc F15
 refine zN Form.row V77 (Form.row_eq _) yE35 ?_
 refine zaI yA37 yS37 ?_
 obtain ⟨v78,V78,F17⟩:=zc F16
 refine zT [(9000,4),(9001,6),(9002,10),(9460,5200),(10460,42231)] [] _ _ (ih_m_impl_match_1_D fu (by omega) _ _ _ _ _ _ V78) ?_
 refine zbh ?_
 refine zai (by kernel_rfl) ?_
 refine zd ?_
 refine zn F17 ?_ ?_<;>intro C79 F18
 refine zb (za ?_)
 refine s_as ?_
 refine s_as ?_
 refine zf (zd ?_)
 refine zfT 8 9200 88 yI88.choose_spec ?_
 refine zeN 9200 (Hit.rowD 3 37 88) (es:=([]:List Hit).map Hit.row) (by (conv=>lhs;whnf)<;>rfl) rfl ?_
 refine zh (zj (zg (zv (zj (zg (zo ?_))))))
 cases F18
 exact zk _ [] Tryz.results51
 refine zi (zY (zd (za ?_)))
 refine s_mv ?_
 refine zE (zaF C74 B75 (zbO V76).1) ?_
 refine s_as ?_
 refine zf ?_
 exact s_rn (fu,(g71+1),v78.2) ⟨by first | omega | (dsimp only;omega),F18⟩ [(5200,42231)]
 refine zA (zr (zp (zu (zd (zb (za ?_))))))
 refine zq yA30 ?_
 refine s_as ?_
 refine s_as ?_
 refine zf (zd ?_)
 refine awp_mvD 8 5200 9200 (by conv=>lhs;whnf) (by conv=>lhs;whnf) rfl ?_
 refine zh (zo ?_)
 cases F14
 exact zk _ [] Tryz.results51
end Go.Abs
