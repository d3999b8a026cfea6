/- A part of the proof: what the functions that the law calls answer, as pure values. -/
import Derived.Test.YtcebadpiebamdaaGreatKe288b2d436cc
import Derived.Test.YtcebadpiebamdaaGreatKfbd980a3bd19
import Derived.Test.YtcebadpiebamdaaGreatK423f84c32d54
import Derived.Test.YtcebadpiebamdaaGreatKf8de2f3a577a
import Derived.Test.YtcebadpiebamdaaGreatKf33feff21039
set_option linter.unusedSimpArgs false
set_option linter.unusedVariables false
set_option maxRecDepth 100000
set_option maxHeartbeats 4000000
namespace Go.Abs
open Go.Proofs
theorem zgk (fuel : Nat) : zc1 fuel ∧ zdj fuel := by
 induction fuel using Nat.strongRecOn with
 | _ N ih =>
   cases N with
   | zero => exact ⟨(by intro x1 r h; rw [zbQ] at h; cases h), (by intro x1 r h; rw [zbg] at h; cases h)⟩
   | succ fu => exact ⟨m_laws_toFormS_D_st fu (fun k hk => (ih k (by omega)).1) (fun k hk => (ih k (by omega)).2), m_laws_toForm_D_st fu (fun k hk => (ih k (by omega)).1) (fun k hk => (ih k (by omega)).2)⟩
theorem m_laws_toFormS_D_ok (fuel : Nat) : zc1 fuel := (zgk fuel).1
theorem zgT (fuel : Nat) : zdj fuel := (zgk fuel).2
def m_laws_toRule_D_AC (fuel : Nat) : Prop := ∀ (x1 : Rule) (r : Rule), zdh fuel x1 = some r → AC Tryz.prog 74 [.ag [.t (.sc (.int .i64 x1.pattern.kind)), .t (.sc (.str x1.pattern.name)), .t (.sc (.int .i64 x1.pattern.n)), .t (.sl (x1.pattern.scopes.map rI)), .t (.sl (x1.pattern.kids.map Form.row)), .t (.sc (.int .i64 x1.template.kind)), .t (.sc (.str x1.template.name)), .t (.sc (.int .i64 x1.template.n)), .t (.sl (x1.template.scopes.map rI)), .t (.sl (x1.template.kids.map Form.row))]] (objs []) (.ag [.t (.sc (.int .i64 r.pattern.kind)), .t (.sc (.str r.pattern.name)), .t (.sc (.int .i64 r.pattern.n)), .ar 9203, .ar 9204, .t (.sc (.int .i64 r.template.kind)), .t (.sc (.str r.template.name)), .t (.sc (.int .i64 r.template.n)), .ar 9208, .ar 9209]) (objs [(9203, .arr (r.pattern.scopes.map rI) 3 true), (9204, .dar (r.pattern.kids.map (Form.rowD 3 37)) 37), (9208, .arr (r.template.scopes.map rI) 3 true), (9209, .dar (r.template.kids.map (Form.rowD 3 37)) 37)])
theorem m_laws_toRule_D_ok (fuel : Nat) : m_laws_toRule_D_AC fuel := by
 intro x1 r F0
 unfold zdh at F0
 refine AC_i [.ag [.t (.sc (.int .i64 r.pattern.kind)), .t (.sc (.str r.pattern.name)), .t (.sc (.int .i64 r.pattern.n)), .ar 9203, .ar 9204, .t (.sc (.int .i64 r.template.kind)), .t (.sc (.str r.template.name)), .t (.sc (.int .i64 r.template.n)), .ar 9208, .ar 9209]] Tryz.func74 rfl Tryz.ntmps74 ?_
 intro C hC
 refine zb (za ?_)
 refine zaF ?_
 refine zU yZ96 ?_
 refine zf (zd (zb (za ?_)))
 refine zU yZ96 ?_
 refine zf (zd (zb (za ?_)))
 refine s_fa yF103_0 ?_
 refine zag yA26 yS26 ?_
 obtain ⟨v1, V1, F1⟩ := zc F0
 refine zQ [(9203, 2006), (9204, 12006)] [] _ _ (zgT fuel _ _ V1) ?_
 refine s_fa zd3 ?_
 refine zcY yS37 ?_
 refine zf (zd (zb (za ?_)))
 refine s_fa yF103_1 ?_
 refine zag yA26 yS26 ?_
 obtain ⟨v2, V2, F2⟩ := zc F1
 refine zQ [(9203, 2010), (9204, 12010)] [] _ _ (zgT fuel _ _ V2) ?_
 refine s_fa zfr ?_
 refine zcY yS37 ?_
 refine zf (zd (zb (za ?_)))
 refine zad yA96 yS96 ?_
 refine zb4 yS96 ?_
 refine zf (zd ?_)
 refine zfq 2 2006 9203 [.t (.sc (.int .i64 v1.kind)), .t (.sc (.str v1.name)), .t (.sc (.int .i64 v1.n)), .ar 9203, .ar 12006, .t (.sc (.int .i64 v2.kind)), .t (.sc (.str v2.name)), .t (.sc (.int .i64 v2.n)), .ar 2010, .ar 12010] ?_
 refine zfh 2 12006 9204 [.t (.sc (.int .i64 v1.kind)), .t (.sc (.str v1.name)), .t (.sc (.int .i64 v1.n)), .ar 9203, .ar 9204, .t (.sc (.int .i64 v2.kind)), .t (.sc (.str v2.name)), .t (.sc (.int .i64 v2.n)), .ar 2010, .ar 12010] ?_
 refine zfq 2 2010 9208 [.t (.sc (.int .i64 v1.kind)), .t (.sc (.str v1.name)), .t (.sc (.int .i64 v1.n)), .ar 9203, .ar 9204, .t (.sc (.int .i64 v2.kind)), .t (.sc (.str v2.name)), .t (.sc (.int .i64 v2.n)), .ar 9208, .ar 12010] ?_
 refine zfh 2 12010 9209 [.t (.sc (.int .i64 v1.kind)), .t (.sc (.str v1.name)), .t (.sc (.int .i64 v1.n)), .ar 9203, .ar 9204, .t (.sc (.int .i64 v2.kind)), .t (.sc (.str v2.name)), .t (.sc (.int .i64 v2.n)), .ar 9208, .ar 9209] ?_
 refine zh (zm ?_)
 cases F2
 exact zch _ [] (by rw [Tryz.results74]; exact (zdt (by conv => lhs; whnf) (by conv => lhs; whnf) yA96 yS96 rfl zcj))
def m_laws_toRuleS_D_AC (fuel : Nat) : Prop := ∀ (x1 : (List Rule)) (r : (List Rule)), zdy fuel x1 = some r → AC Tryz.prog 34 [.t (.sl (x1.map Rule.row))] (objs []) (.ar 9200) (objs [(9200, .dar (r.map (Rule.rowD 3 37)) 96)])
theorem m_laws_toRuleS_D_ok (fuel : Nat) : m_laws_toRuleS_D_AC fuel := by
 intro x1 r F0
 unfold zdy at F0
 refine AC_i [.ar 9200] Tryz.func34 rfl Tryz.ntmps34 ?_
 intro C hC
 refine zb (za ?_)
 refine s_as ?_
 refine zf (zd (zb (za ?_)))
 refine s_mv ?_
 refine zE yU67 ?_
 obtain ⟨hk1, F1⟩ := zaS F0
 refine s_mkD (Rule.rowD 3 37) (Rule.mk (Form.mk 0 (⟨#[]⟩ : ByteArray) 0 ([] : List Int) ([] : List Form)) (Form.mk 0 (⟨#[]⟩ : ByteArray) 0 ([] : List Int) ([] : List Form))) [.sc (.int .i64 0), .sc (.str (⟨#[]⟩ : ByteArray)), .sc (.int .i64 0), .sc (.nis 3), .sc (.nis 37), .sc (.int .i64 0), .sc (.str (⟨#[]⟩ : ByteArray)), .sc (.int .i64 0), .sc (.nis 3), .sc (.nis 37)] (by rw [(Rule.rowDE _ _ _)]; rfl) hk1 yP53 yZ96 yN96 ?_
 refine s_as ?_
 refine zf (zd (zb (zb (za ?_))))
 refine s_as ?_
 refine zf (zd (zl ?_))
 refine zap (β := Int × (List Rule)) [4, 8, 9, 10, 11, 12, 13, 14, 15, 16, 17, 18, 19, 20, 21] [7] [2020, 12020, 22020, 32020] (fun a => [(4, .t (.sc (.int .i64 a.2.1)))]) (fun a => [(7, .dar (a.2.2.map (Rule.rowD 3 37)) 96)]) (fun a => a.1 ≤ fuel ∧ za2 a.1 x1 a.2.1 a.2.2 = some r ∧ 0 ≤ a.2.1) (fuel, 0, (List.replicate (x1.length : Int).toNat (Rule.mk (Form.mk 0 (⟨#[]⟩ : ByteArray) 0 ([] : List Int) ([] : List Form)) (Form.mk 0 (⟨#[]⟩ : ByteArray) 0 ([] : List Int) ([] : List Form))))) ⟨Nat.le_refl _, F1, by simp⟩ ?_
 clear F1
 rintro ⟨fu, g2, g3⟩ ⟨hl4, F2, hn_g2⟩
 dsimp only at hl4 F2 hn_g2 ⊢
 obtain _ | fu := fu
 · rw [za2] at F2; cases F2
 rw [za2] at F2
 refine zb (zb (za ?_))
 refine s_mv ?_
 refine s_mv ?_
 refine zE yU67 ?_
 refine s_lt ?_
 refine zf (zd ?_)
 refine zn F2 ?_ ?_ <;> intro C5 F3
 refine zG 0 (fun B6 => ?_)
 refine zi (zd (zb (zl (za ?_))))
 iterate 4 refine s_mv ?_
 obtain ⟨v7, V7, F4⟩ := zc F3
 refine zL Rule.row V7 (Rule.row_eq _) yE67 ?_
 refine zag yA103 yS103 ?_
 obtain ⟨v8, V8, F5⟩ := zc F4
 refine zQ [(9203, 2020), (9204, 12020), (9208, 22020), (9209, 32020)] [] _ _ (m_laws_toRule_D_ok fu _ _ V8) ?_
 obtain ⟨v9, V9, F6⟩ := zc F5
 refine zgf (Rule.rowD 3 37) V9 yE53 ?_
 refine s_stS (Rule.rowD 3 37) [.sc (.int .i64 v8.pattern.kind), .sc (.str v8.pattern.name), .sc (.int .i64 v8.pattern.n), .any, .any, .sc (.int .i64 v8.template.kind), .sc (.str v8.template.name), .sc (.int .i64 v8.template.n), .any, .any] [(g2.toNat, 3, 2020), (g2.toNat, 4, 12020), (g2.toNat, 8, 22020), (g2.toNat, 9, 32020)] V9 yS96 yS96 ?_
 refine zf (z6 (zd ?_))
 refine awp_jsA 7 2020 [.sc (.int .i64 v8.pattern.kind), .sc (.str v8.pattern.name), .sc (.int .i64 v8.pattern.n), .ow 3 (v8.pattern.scopes.map rI), .any, .sc (.int .i64 v8.template.kind), .sc (.str v8.template.name), .sc (.int .i64 v8.template.n), .any, .any] V9 ?_
 refine zg6 7 12020 [.sc (.int .i64 v8.pattern.kind), .sc (.str v8.pattern.name), .sc (.int .i64 v8.pattern.n), .ow 3 (v8.pattern.scopes.map rI), .ow 37 (v8.pattern.kids.map (Form.rowD 3 37)), .sc (.int .i64 v8.template.kind), .sc (.str v8.template.name), .sc (.int .i64 v8.template.n), .any, .any] V9 ?_
 refine awp_jsA 7 22020 [.sc (.int .i64 v8.pattern.kind), .sc (.str v8.pattern.name), .sc (.int .i64 v8.pattern.n), .ow 3 (v8.pattern.scopes.map rI), .ow 37 (v8.pattern.kids.map (Form.rowD 3 37)), .sc (.int .i64 v8.template.kind), .sc (.str v8.template.name), .sc (.int .i64 v8.template.n), .ow 3 (v8.template.scopes.map rI), .any] V9 ?_
 refine zg6 7 32020 [.sc (.int .i64 v8.pattern.kind), .sc (.str v8.pattern.name), .sc (.int .i64 v8.pattern.n), .ow 3 (v8.pattern.scopes.map rI), .ow 37 (v8.pattern.kids.map (Form.rowD 3 37)), .sc (.int .i64 v8.template.kind), .sc (.str v8.template.name), .sc (.int .i64 v8.template.n), .ow 3 (v8.template.scopes.map rI), .ow 37 (v8.template.kids.map (Form.rowD 3 37))] V9 ?_
 refine zfW 7 (row := (Rule.rowD 3 37)) (fs := [.sc (.int .i64 v8.pattern.kind), .sc (.str v8.pattern.name), .sc (.int .i64 v8.pattern.n), .ow 3 (v8.pattern.scopes.map rI), .ow 37 (v8.pattern.kids.map (Form.rowD 3 37)), .sc (.int .i64 v8.template.kind), .sc (.str v8.template.name), .sc (.int .i64 v8.template.n), .ow 3 (v8.template.scopes.map rI), .ow 37 (v8.template.kids.map (Form.rowD 3 37))]) v8 (Rule.rowDE _ _ _) ?_
 refine za ?_
 refine s_mv ?_
 refine zI (zak C5 B6 hn_g2) ?_
 refine s_as ?_
 refine zf ?_
 exact s_rn (fu, (g2 + 1), (g3.set g2.toNat v8)) ⟨by first | omega | (dsimp only; omega), F6, by first | omega | (dsimp only; omega)⟩
 refine zB (zw (zr (zx (zd (zb (za ?_))))))
 refine s_mv ?_
 refine s_as ?_
 refine zf (zd ?_)
 refine awp_mvD 2 7 9200 (by conv => lhs; whnf) (by conv => lhs; whnf) rfl ?_
 refine zh (zm ?_)
 cases F3
 exact zk _ [] Tryz.results34
def m_laws_toMacro_D_AC (fuel : Nat) : Prop := ∀ (x1 : zq) (r : zq), zcT fuel x1 = some r → AC Tryz.prog 112 [.ag [.t (.sc (.int .i64 x1.id)), .t (.sl (x1.literals.map Form.row)), .t (.sl (x1.rules.map Rule.row))]] (objs []) (.ag [.t (.sc (.int .i64 r.id)), .ar 9201, .ar 9202]) (objs [(9201, .dar (r.literals.map (Form.rowD 3 37)) 37), (9202, .dar (r.rules.map (Rule.rowD 3 37)) 96)])
theorem m_laws_toMacro_D_ok (fuel : Nat) : m_laws_toMacro_D_AC fuel := by
 intro x1 r F0
 unfold zcT at F0
 refine AC_i [.ag [.t (.sc (.int .i64 r.id)), .ar 9201, .ar 9202]] Tryz.func112 rfl Tryz.ntmps112 ?_
 intro C hC
 refine zb (za ?_)
 refine zaF ?_
 refine zU yZ55 ?_
 refine zf (zd (zb (za ?_)))
 refine zU yZ55 ?_
 refine zf (zd (zb (za ?_)))
 refine s_fa yF134_0 ?_
 refine zp yA3 ?_
 refine s_fa zgJ ?_
 refine zcY yS3 ?_
 refine zf (zd (zb (za ?_)))
 refine s_fa yF134_1 ?_
 refine zp yA24 ?_
 obtain ⟨v1, V1, F1⟩ := zc F0
 refine zQ [(9200, 2009)] [] _ _ (m_laws_toFormS_D_ok fuel _ _ V1) ?_
 refine s_fa zfy ?_
 refine zcY yS35 ?_
 refine zf (zd (zb (za ?_)))
 refine s_fa yF134_2 ?_
 refine zp yA67 ?_
 obtain ⟨v2, V2, F2⟩ := zc F1
 refine zQ [(9200, 2013)] [] _ _ (m_laws_toRuleS_D_ok fuel _ _ V2) ?_
 refine s_fa zfx ?_
 refine zcY yS53 ?_
 refine zf (zd (zb (za ?_)))
 refine zad yA55 yS55 ?_
 refine zb4 yS55 ?_
 refine zf (zd ?_)
 refine zfh 2 2009 9201 [.t (.sc (.int .i64 x1.id)), .ar 9201, .ar 2013] ?_
 refine zfh 2 2013 9202 [.t (.sc (.int .i64 x1.id)), .ar 9201, .ar 9202] ?_
 refine zh (zm ?_)
 cases F2
 exact zch _ [] (by rw [Tryz.results112]; exact (zdt (by conv => lhs; whnf) (by conv => lhs; whnf) yA55 yS55 rfl zcj))
def m_laws_toMacroS_D_AC (fuel : Nat) : Prop := ∀ (x1 : (List zq)) (r : (List zq)), zc0 fuel x1 = some r → AC Tryz.prog 63 [.t (.sl (x1.map zq.row))] (objs []) (.ar 9200) (objs [(9200, .dar (r.map (zq.rowD 3 37 96)) 55)])
theorem m_laws_toMacroS_D_ok (fuel : Nat) : m_laws_toMacroS_D_AC fuel := by
 intro x1 r F0
 unfold zc0 at F0
 refine AC_i [.ar 9200] Tryz.func63 rfl Tryz.ntmps63 ?_
 intro C hC
 refine zb (za ?_)
 refine s_as ?_
 refine zf (zd (zb (za ?_)))
 refine s_mv ?_
 refine zE yU49 ?_
 obtain ⟨hk1, F1⟩ := zaS F0
 refine s_mkD (zq.rowD 3 37 96) (zq.mk 0 ([] : List Form) ([] : List Rule)) [.sc (.int .i64 0), .sc (.nis 37), .sc (.nis 96)] (by rw [(zq.rowDE _ _ _ _)]; rfl) hk1 yP58 yZ55 yN55 ?_
 refine s_as ?_
 refine zf (zd (zb (zb (za ?_))))
 refine s_as ?_
 refine zf (zd (zl ?_))
 refine zap (β := Int × (List zq)) [4, 8, 9, 10, 11, 12, 13, 14, 15, 16, 17, 18, 19, 20, 21] [7] [2020, 12020] (fun a => [(4, .t (.sc (.int .i64 a.2.1)))]) (fun a => [(7, .dar (a.2.2.map (zq.rowD 3 37 96)) 55)]) (fun a => a.1 ≤ fuel ∧ zaO a.1 x1 a.2.1 a.2.2 = some r ∧ 0 ≤ a.2.1) (fuel, 0, (List.replicate (x1.length : Int).toNat (zq.mk 0 ([] : List Form) ([] : List Rule)))) ⟨Nat.le_refl _, F1, by simp⟩ ?_
 clear F1
 rintro ⟨fu, g2, g3⟩ ⟨hl4, F2, hn_g2⟩
 dsimp only at hl4 F2 hn_g2 ⊢
 obtain _ | fu := fu
 · rw [zaO] at F2; cases F2
 rw [zaO] at F2
 refine zb (zb (za ?_))
 refine s_mv ?_
 refine s_mv ?_
 refine zE yU49 ?_
 refine s_lt ?_
 refine zf (zd ?_)
 refine zn F2 ?_ ?_ <;> intro C5 F3
 refine zG 0 (fun B6 => ?_)
 refine zi (zd (zb (zl (za ?_))))
 iterate 4 refine s_mv ?_
 obtain ⟨v7, V7, F4⟩ := zc F3
 refine zL zq.row V7 (zq.row_eq _) yE49 ?_
 refine zag yA134 yS134 ?_
 obtain ⟨v8, V8, F5⟩ := zc F4
 refine zQ [(9201, 2020), (9202, 12020)] [] _ _ (m_laws_toMacro_D_ok fu _ _ V8) ?_
 obtain ⟨v9, V9, F6⟩ := zc F5
 refine zgf (zq.rowD 3 37 96) V9 yE58 ?_
 refine s_stS (zq.rowD 3 37 96) [.sc (.int .i64 v8.id), .any, .any] [(g2.toNat, 1, 2020), (g2.toNat, 2, 12020)] V9 yS55 yS55 ?_
 refine zf (z6 (zd ?_))
 refine zg6 7 2020 [.sc (.int .i64 v8.id), .ow 37 (v8.literals.map (Form.rowD 3 37)), .any] V9 ?_
 refine zg6 7 12020 [.sc (.int .i64 v8.id), .ow 37 (v8.literals.map (Form.rowD 3 37)), .ow 96 (v8.rules.map (Rule.rowD 3 37))] V9 ?_
 refine zfW 7 (row := (zq.rowD 3 37 96)) (fs := [.sc (.int .i64 v8.id), .ow 37 (v8.literals.map (Form.rowD 3 37)), .ow 96 (v8.rules.map (Rule.rowD 3 37))]) v8 (zq.rowDE _ _ _ _) ?_
 refine za ?_
 refine s_mv ?_
 refine zI (zak C5 B6 hn_g2) ?_
 refine s_as ?_
 refine zf ?_
 exact s_rn (fu, (g2 + 1), (g3.set g2.toNat v8)) ⟨by first | omega | (dsimp only; omega), F6, by first | omega | (dsimp only; omega)⟩
 refine zB (zw (zr (zx (zd (zb (za ?_))))))
 refine s_mv ?_
 refine s_as ?_
 refine zf (zd ?_)
 refine awp_mvD 2 7 9200 (by conv => lhs; whnf) (by conv => lhs; whnf) rfl ?_
 refine zh (zm ?_)
 cases F3
 exact zk _ [] Tryz.results63
def zhA (fuel : Nat) : Prop := ∀ (x1 : zv) (r : zv), zaP fuel x1 = some r → AC Tryz.prog 25 [.ag [.t (.sl (x1.binds.map Bind.row)), .t (.sl (x1.macros.map zq.row)), .t (.sc (.int .i64 x1.scope)), .t (.sc (.int .i64 x1.id)), .t (.sc (.int .i64 x1.steps))]] (objs []) (.ag [.ar 9200, .ar 9201, .t (.sc (.int .i64 r.scope)), .t (.sc (.int .i64 r.id)), .t (.sc (.int .i64 r.steps))]) (objs [(9200, .dar (r.binds.map (Bind.rowD 3)) 83), (9201, .dar (r.macros.map (zq.rowD 3 37 96)) 55)])
theorem zhz (fuel : Nat) : zhA fuel := by
 intro x1 r F0
 unfold zaP at F0
 refine AC_i [.ag [.ar 9200, .ar 9201, .t (.sc (.int .i64 r.scope)), .t (.sc (.int .i64 r.id)), .t (.sc (.int .i64 r.steps))]] Tryz.func25 rfl Tryz.ntmps25 ?_
 intro C hC
 refine zb (za ?_)
 refine zaF ?_
 refine zU yZ60 ?_
 refine zf (zd (zb (za ?_)))
 refine zU yZ60 ?_
 refine zf (zd (zb (za ?_)))
 refine s_fa yF51_0 ?_
 refine zp yA22 ?_
 obtain ⟨v1, V1, F1⟩ := zc F0
 refine zQ [(9200, 2006)] [] _ _ (m_laws_toBindS_D_ok fuel _ _ V1) ?_
 refine s_fa yF60_0 ?_
 refine zcY yS33 ?_
 refine zf (zd (zb (za ?_)))
 refine s_fa yF51_1 ?_
 refine zp yA49 ?_
 obtain ⟨v2, V2, F2⟩ := zc F1
 refine zQ [(9200, 2010)] [] _ _ (m_laws_toMacroS_D_ok fuel _ _ V2) ?_
 refine s_fa zd4 ?_
 refine zcY yS58 ?_
 refine zf (zd (zb (za ?_)))
 refine s_fa yF51_2 ?_
 refine zp yA3 ?_
 refine s_fa yF60_2 ?_
 refine zcY yS3 ?_
 refine zf (zd (zb (za ?_)))
 refine s_fa yF51_3 ?_
 refine zp yA3 ?_
 refine s_fa yF60_3 ?_
 refine zcY yS3 ?_
 refine zf (zd (zb (za ?_)))
 refine s_fa yF51_4 ?_
 refine zp yA3 ?_
 refine s_fa yF60_4 ?_
 refine zcY yS3 ?_
 refine zf (zd (zb (za ?_)))
 refine zad yA60 yS60 ?_
 refine zb4 yS60 ?_
 refine zf (zd ?_)
 refine zfh 2 2006 9200 [.ar 9200, .ar 2010, .t (.sc (.int .i64 x1.scope)), .t (.sc (.int .i64 x1.id)), .t (.sc (.int .i64 x1.steps))] ?_
 refine zfh 2 2010 9201 [.ar 9200, .ar 9201, .t (.sc (.int .i64 x1.scope)), .t (.sc (.int .i64 x1.id)), .t (.sc (.int .i64 x1.steps))] ?_
 refine zh (zm ?_)
 cases F2
 exact zch _ [] (by rw [Tryz.results25]; exact (zdt (by conv => lhs; whnf) (by conv => lhs; whnf) yA60 yS60 rfl zcj))
def m_impl_macroAt_1_AC (fuel : Nat) : Prop := ∀ (x1 : zq) (o1 : Int) (r : Bool), zfd fuel x1 o1 = some r → AC Tryz.prog 114 [.ag [.t (.sc (.int .i64 x1.id)), .t (.sl (x1.literals.map Form.row)), .t (.sl (x1.rules.map Rule.row))], .rf 9000 0] (objs [(9000, .box [.t (.sc (.int .i64 o1))])]) (.t (.sc (.bool r))) (objs [(9000, .box [.t (.sc (.int .i64 o1))])])
theorem m_impl_macroAt_1_ok (fuel : Nat) : m_impl_macroAt_1_AC fuel := by
 intro x1 o1 r F0
 unfold zfd at F0
 refine AC_i [.t (.sc (.bool r))] Tryz.func114 rfl Tryz.ntmps114 ?_
 intro C hC
 refine zb (za ?_)
 refine zaF ?_
 refine s_as ?_
 refine zf (zd (zb (za ?_)))
 refine s_fa zgJ ?_
 refine zp yA3 ?_
 refine zp yA3 ?_
 refine s_eq ?_
 refine s_as ?_
 refine zf (zd (zh (zm ?_)))
 cases F0
 exact zk _ [] Tryz.results114
def zeV (fuel : Nat) : Prop := ∀ (x1 : (List zq)) (o1 : Int) (r : Int), za1 fuel x1 o1 = some r → AC Tryz.prog 113 [.t (.sl (x1.map zq.row)), .fn 114 [.rf 9000 0]] (objs [(9000, .box [.t (.sc (.int .i64 o1))])]) (.t (.sc (.int .i64 r))) (objs [(9000, .box [.t (.sc (.int .i64 o1))])])
theorem zeU (fuel : Nat) : zeV fuel := by
 intro x1 o1 r F0
 unfold za1 at F0
 refine AC_i [.t (.sc (.int .i64 r))] Tryz.func113 rfl Tryz.ntmps113 ?_
 intro C hC
 refine zb (za ?_)
 refine s_as ?_
 refine zf (zd (zb (zb (za ?_))))
 refine s_mv ?_
 refine zE yU58 ?_
 refine s_mv ?_
 refine zf (zd (zl ?_))
 refine zap (β := Int) [4, 5, 8, 9, 10, 11, 12, 13, 14, 15, 16, 17, 18] [] [] (fun a => [(8, .t (.sc (.int .i64 a.2)))]) (fun a => []) (fun a => a.1 ≤ fuel ∧ zN a.1 x1 o1 a.2 = some r ∧ 0 ≤ a.2) (fuel, 0) ⟨Nat.le_refl _, F0, by simp⟩ ?_
 clear F0
 rintro ⟨fu, g1⟩ ⟨hl2, F1, hn_g1⟩
 dsimp only at hl2 F1 hn_g1 ⊢
 obtain _ | fu := fu
 · rw [zN] at F1; cases F1
 rw [zN] at F1
 refine zb (za ?_)
 refine s_lt ?_
 refine zf (zd (zb ?_))
 refine zn F1 ?_ ?_ <;> intro C3 F2
 refine zG 0 (fun B4 => ?_)
 refine zi (zd (zb (zl (zb (za ?_)))))
 refine s_mv ?_
 refine s_as ?_
 refine zf (zd (zb (za ?_)))
 iterate 3 refine s_mv ?_
 obtain ⟨v5, V5, F3⟩ := zc F2
 refine zL zq.row V5 (zq.row_eq _) yE58 ?_
 refine zag yA55 yS55 ?_
 obtain ⟨v6, V6, F4⟩ := zc F3
 refine zQ [(9000, 9000)] [] _ _ (m_impl_macroAt_1_ok fu _ _ _ V6) ?_
 refine zf (zd ?_)
 refine zn F4 ?_ ?_ <;> intro C7 F5
 refine zb (za ?_)
 refine s_mv ?_
 refine s_as ?_
 refine zf (zd (zh (zj (zg (zu (zj (zg (zm ?_))))))))
 cases F5
 exact zk _ [] Tryz.results113
 refine zi (z6 (zd (za ?_)))
 refine zI (zak C3 B4 hn_g1) ?_
 refine s_mv ?_
 refine zf ?_
 exact s_rn (fu, (g1 + 1)) ⟨by first | omega | (dsimp only; omega), F5, by first | omega | (dsimp only; omega)⟩
 refine zB (zw (zr (zx (zd (zb (za ?_))))))
 refine s_as ?_
 refine zf (zd (zh (zm ?_)))
 cases F2
 exact zk _ [] Tryz.results113
def m_impl_macroAt_AC (fuel : Nat) : Prop := ∀ (x1 : (List zq)) (x2 : Int) (r : Int), zen fuel x1 x2 = some r → AC Tryz.prog 64 [.t (.sl (x1.map zq.row)), .t (.sc (.int .i64 x2))] noOb (.t (.sc (.int .i64 r))) noOb
theorem zfU (fuel : Nat) : m_impl_macroAt_AC fuel := by
 intro x1 x2 r F0
 unfold zen at F0
 refine AC_i [.t (.sc (.int .i64 r))] Tryz.func64 rfl Tryz.ntmps64 ?_
 intro C hC
 refine zb (za ?_)
 refine zaF ?_
 refine s_as ?_
 refine zf (zd (zb (za ?_)))
 refine s_mv ?_
 refine s_fn ?_
 obtain ⟨v1, V1, F1⟩ := zc F0
 refine zQ [(9000, 3)] [] _ _ (zeU fuel _ _ _ V1) ?_
 refine s_as ?_
 refine zf (zd (zh (zm ?_)))
 cases F1
 exact zk [] [] Tryz.results64
def m_strings_IndexByte_AC (fuel : Nat) : Prop := ∀ (x1 : ByteArray) (x2 : Int) (r : Int), zdU fuel x1 x2 = some r → AC Tryz.prog 130 [.t (.sc (.str x1)), .t (.sc (.int .u8 x2))] noOb (.t (.sc (.int .i64 r))) noOb
theorem zfQ (fuel : Nat) : m_strings_IndexByte_AC fuel := by
 intro x1 x2 r h
 obtain rfl := Option.some.inj h
 exact ac_two (a := .str x1) (b := .int .u8 x2) (r := .int .i64 _) ⟨_, Tryz.func130, by kernel_rfl, by kernel_rfl⟩ (fun w => Tryz.strings_IndexByte x1 x2 w)
def m_impl_within_AC (fuel : Nat) : Prop := ∀ (x1 : Int) (x2 : Int) (x3 : Int) (r : Bool), zbH fuel x1 x2 x3 = some r → AC Tryz.prog 94 [.t (.sc (.int .i64 x1)), .t (.sc (.int .i64 x2)), .t (.sc (.int .i64 x3))] noOb (.t (.sc (.bool r))) noOb
theorem zbU (fuel : Nat) : m_impl_within_AC fuel := by
 intro x1 x2 x3 r F0
 unfold zbH at F0
 refine AC_i [.t (.sc (.bool r))] Tryz.func94 rfl Tryz.ntmps94 ?_
 intro C hC
 refine zb (za ?_)
 refine s_as ?_
 refine zf (zd (zb (za ?_)))
 refine s_mv ?_
 refine s_mv ?_
 refine s_ge ?_
 refine s_mv ?_
 refine zy _ 10 F0 ?_ ?_ <;> intro C1 F1
 refine s_mv ?_
 refine s_mv ?_
 refine s_le ?_
 refine zC ?_
 refine s_as ?_
 refine zf (zd (zh (zm ?_)))
 cases F1
 exact zk [] [] Tryz.results94
 iterate 3 refine r_no rfl ?_
 refine zF ?_
 refine s_as ?_
 refine zf (zd (zh (zm ?_)))
 cases F1
 exact zk [] [] Tryz.results94
def m_impl_NameValid_AC (fuel : Nat) : Prop := ∀ (x1 : ByteArray) (r : Bool), zdc fuel x1 = some r → AC Tryz.prog 92 [.t (.sc (.str x1))] noOb (.t (.sc (.bool r))) noOb
theorem zgE (fuel : Nat) : m_impl_NameValid_AC fuel := by
 intro x1 r F0
 unfold zdc at F0
 refine AC_i [.t (.sc (.bool r))] Tryz.func92 rfl Tryz.ntmps92 ?_
 intro C hC
 refine zb (za ?_)
 refine s_as ?_
 refine zf (zd (zb (zb (za ?_))))
 refine s_mv ?_
 refine s_eqS ?_
 refine s_mv ?_
 refine zy _ 7 F0 ?_ ?_ <;> intro C1 F1
 refine r_no rfl (r_no rfl ?_)
 refine zC ?_
 refine zf (zd (zM rfl (zb (za ?_))))
 refine s_as ?_
 refine zf (zd (zh (zg (zm ?_))))
 cases F1
 exact zk [] [] Tryz.results92
 refine s_mv ?_
 refine s_eqS ?_
 refine zF ?_
 refine zf (zd ?_)
 refine zn F1 ?_ ?_ <;> intro C2 F2
 refine zb (za ?_)
 refine s_as ?_
 refine zf (zd (zh (zg (zm ?_))))
 cases F2
 exact zk [] [] Tryz.results92
 refine zi (zd (zb (zb (za ?_))))
 refine s_as ?_
 refine zf (zd (zl ?_))
 refine zap (β := Int) [2, 3, 4, 11, 12, 13, 14, 15, 16, 17, 18, 19, 20, 21, 22, 23, 24, 25, 26, 27, 28, 29, 30, 31, 32, 33, 34, 35, 36, 37, 38, 39, 40, 41, 42, 43, 44, 45, 46] [] [] (fun a => [(3, .t (.sc (.int .i64 a.2)))]) (fun a => []) (fun a => a.1 ≤ fuel ∧ zO a.1 x1 a.2 = some r) (fuel, 0) ⟨Nat.le_refl _, F2⟩ ?_
 clear F2
 rintro ⟨fu, g3⟩ ⟨hl4, F3⟩
 dsimp only at hl4 F3 ⊢
 obtain _ | fu := fu
 · rw [zO] at F3; cases F3
 rw [zO] at F3
 refine zb (zb (za ?_))
 refine s_mv ?_
 refine s_mv ?_
 refine s_lenS yU9 ?_
 refine s_lt ?_
 refine zf (zd ?_)
 refine zn F3 ?_ ?_ <;> intro C5 F4
 refine zi (zd (zb (zl (zb (za ?_)))))
 refine s_mv ?_
 refine s_mv ?_
 obtain ⟨v6, V6, F5⟩ := zc F4
 refine s_ixS V6 yU9 ?_
 refine s_as ?_
 refine zf (zd (zl (zb (za ?_))))
 refine s_mv ?_
 refine s_ge ?_
 refine s_mv ?_
 refine zy _ 23 F5 ?_ ?_ <;> intro C7 F6
 refine s_mv ?_
 refine s_le ?_
 refine zC ?_
 refine s_mv ?_
 refine zy _ 27 F6 ?_ ?_ <;> intro C8 F7
 iterate 3 refine r_no rfl ?_
 refine zC ?_
 refine s_as ?_
 refine zf (zd (zM rfl (zi (z6 (z6 (zd (za ?_)))))))
 refine s_mv ?_
 refine zI rfl ?_
 refine s_as ?_
 refine zf ?_
 exact s_rn (fu, (w64 (g3 + 1))) ⟨by first | omega | (dsimp only; omega), F7⟩
 refine s_mv ?_
 obtain ⟨v9, V9, F8⟩ := zc F7
 refine zz [] (zfQ fu _ _ _ V9) ?_
 refine s_ge ?_
 refine zF ?_
 refine s_as ?_
 refine zf (zd ?_)
 refine zn F8 ?_ ?_ <;> intro C10 F9
 refine zi (z6 (z6 (zd (za ?_))))
 refine s_mv ?_
 refine zI rfl ?_
 refine s_as ?_
 refine zf ?_
 exact s_rn (fu, (w64 (g3 + 1))) ⟨by first | omega | (dsimp only; omega), F9⟩
 refine zb (za ?_)
 refine s_mv ?_
 refine s_gt ?_
 refine s_mv ?_
 refine zy _ 35 F9 ?_ ?_ <;> intro C11 F10
 refine s_mv ?_
 refine s_ge ?_
 refine s_mv ?_
 refine zy _ 38 F10 ?_ ?_ <;> intro C12 F11
 refine s_mv ?_
 refine s_le ?_
 refine zC ?_
 refine s_mv ?_
 refine zy _ 42 F11 ?_ ?_ <;> intro C13 F12
 refine r_no rfl (r_no rfl ?_)
 refine zC ?_
 refine zC ?_
 refine s_as ?_
 refine zf (zd (zM rfl (zi (z6 (z6 (zd (za ?_)))))))
 refine s_mv ?_
 refine zI rfl ?_
 refine s_as ?_
 refine zf ?_
 exact s_rn (fu, (w64 (g3 + 1))) ⟨by first | omega | (dsimp only; omega), F12⟩
 refine s_mv ?_
 refine s_eq ?_
 refine zF ?_
 refine zC ?_
 refine s_as ?_
 refine zf (zd ?_)
 refine zn F12 ?_ ?_ <;> intro C14 F13
 refine zi (z6 (z6 (zd (za ?_))))
 refine s_mv ?_
 refine zI rfl ?_
 refine s_as ?_
 refine zf ?_
 exact s_rn (fu, (w64 (g3 + 1))) ⟨by first | omega | (dsimp only; omega), F13⟩
 refine zb (za ?_)
 refine s_as ?_
 refine zf (zd (zh (zj (zj (zg (zu (zj (zg (zm ?_)))))))))
 cases F13
 exact zk [] [] Tryz.results92
 refine r_no rfl (r_no rfl ?_)
 refine zF ?_
 refine s_mv ?_
 refine s_mv ?_
 refine s_eq ?_
 refine zF ?_
 refine zC ?_
 refine s_as ?_
 refine zf (zd ?_)
 refine zn F11 ?_ ?_ <;> intro C15 F12
 refine zi (z6 (z6 (zd (za ?_))))
 refine s_mv ?_
 refine zI rfl ?_
 refine s_as ?_
 refine zf ?_
 exact s_rn (fu, (w64 (g3 + 1))) ⟨by first | omega | (dsimp only; omega), F12⟩
 refine zb (za ?_)
 refine s_as ?_
 refine zf (zd (zh (zj (zj (zg (zu (zj (zg (zm ?_)))))))))
 cases F12
 exact zk [] [] Tryz.results92
 iterate 10 refine r_no rfl ?_
 refine zF ?_
 refine s_as ?_
 refine zf (zd (zci rfl (zb (za ?_))))
 refine s_as ?_
 refine zf (zd (zh (zj (zj (zg (zu (zj (zg (zm ?_)))))))))
 cases F10
 exact zk [] [] Tryz.results92
 refine r_no rfl (r_no rfl ?_)
 refine zF ?_
 refine s_mv ?_
 refine s_mv ?_
 obtain ⟨v16, V16, F7⟩ := zc F6
 refine zz [] (zfQ fu _ _ _ V16) ?_
 refine s_ge ?_
 refine zF ?_
 refine s_as ?_
 refine zf (zd ?_)
 refine zn F7 ?_ ?_ <;> intro C17 F8
 refine zi (z6 (z6 (zd (za ?_))))
 refine s_mv ?_
 refine zI rfl ?_
 refine s_as ?_
 refine zf ?_
 exact s_rn (fu, (w64 (g3 + 1))) ⟨by first | omega | (dsimp only; omega), F8⟩
 refine zb (za ?_)
 refine s_mv ?_
 refine s_gt ?_
 refine s_mv ?_
 refine zy _ 35 F8 ?_ ?_ <;> intro C18 F9
 refine s_mv ?_
 refine s_ge ?_
 refine s_mv ?_
 refine zy _ 38 F9 ?_ ?_ <;> intro C19 F10
 refine s_mv ?_
 refine s_le ?_
 refine zC ?_
 refine s_mv ?_
 refine zy _ 42 F10 ?_ ?_ <;> intro C20 F11
 refine r_no rfl (r_no rfl ?_)
 refine zC ?_
 refine zC ?_
 refine s_as ?_
 refine zf (zd (zM rfl (zi (z6 (z6 (zd (za ?_)))))))
 refine s_mv ?_
 refine zI rfl ?_
 refine s_as ?_
 refine zf ?_
 exact s_rn (fu, (w64 (g3 + 1))) ⟨by first | omega | (dsimp only; omega), F11⟩
 refine s_mv ?_
 refine s_eq ?_
 refine zF ?_
 refine zC ?_
 refine s_as ?_
 refine zf (zd ?_)
 refine zn F11 ?_ ?_ <;> intro C21 F12
 refine zi (z6 (z6 (zd (za ?_))))
 refine s_mv ?_
 refine zI rfl ?_
 refine s_as ?_
 refine zf ?_
 exact s_rn (fu, (w64 (g3 + 1))) ⟨by first | omega | (dsimp only; omega), F12⟩
 refine zb (za ?_)
 refine s_as ?_
 refine zf (zd (zh (zj (zj (zg (zu (zj (zg (zm ?_)))))))))
 cases F12
 exact zk [] [] Tryz.results92
 refine r_no rfl (r_no rfl ?_)
 refine zF ?_
 refine s_mv ?_
 refine s_mv ?_
 refine s_eq ?_
 refine zF ?_
 refine zC ?_
 refine s_as ?_
 refine zf (zd ?_)
 refine zn F10 ?_ ?_ <;> intro C22 F11
 refine zi (z6 (z6 (zd (za ?_))))
 refine s_mv ?_
 refine zI rfl ?_
 refine s_as ?_
 refine zf ?_
 exact s_rn (fu, (w64 (g3 + 1))) ⟨by first | omega | (dsimp only; omega), F11⟩
 refine zb (za ?_)
 refine s_as ?_
 refine zf (zd (zh (zj (zj (zg (zu (zj (zg (zm ?_)))))))))
 cases F11
 exact zk [] [] Tryz.results92
 iterate 10 refine r_no rfl ?_
 refine zF ?_
 refine s_as ?_
 refine zf (zd (zci rfl (zb (za ?_))))
 refine s_as ?_
 refine zf (zd (zh (zj (zj (zg (zu (zj (zg (zm ?_)))))))))
 cases F9
 exact zk [] [] Tryz.results92
 refine zB (zw (zr (zx (zd (zb (za ?_))))))
 refine s_mv ?_
 refine s_lenS yU9 ?_
 obtain ⟨v23, V23, F5⟩ := zc F4
 refine zz [] (zbU fu _ _ _ _ V23) ?_
 refine s_as ?_
 refine zf (zd (zh (zm ?_)))
 cases F5
 exact zk [] [] Tryz.results92
def m_impl_scopesOk_AC (fuel : Nat) : Prop := ∀ (x1 : (List Int)) (r : Bool), zdQ fuel x1 = some r → AC Tryz.prog 93 [.t (.sl (x1.map rI))] noOb (.t (.sc (.bool r))) noOb
theorem zgU (fuel : Nat) : m_impl_scopesOk_AC fuel := by
 intro x1 r F0
 unfold zdQ at F0
 refine AC_i [.t (.sc (.bool r))] Tryz.func93 rfl Tryz.ntmps93 ?_
 intro C hC
 refine zb (za ?_)
 refine s_as ?_
 refine zf (zd (zb (zb (za ?_))))
 refine s_mv ?_
 refine zE yU23 ?_
 refine s_mv ?_
 refine zf (zd (zl ?_))
 refine zap (β := Int) [2, 3, 4, 7, 8, 9, 10, 11, 12, 13, 14, 15, 16, 17, 18, 19, 20, 21, 22, 23, 24, 25, 26, 27, 28] [] [] (fun a => [(7, .t (.sc (.int .i64 a.2)))]) (fun a => []) (fun a => a.1 ≤ fuel ∧ zbi a.1 x1 a.2 = some r ∧ 0 ≤ a.2) (fuel, 0) ⟨Nat.le_refl _, F0, by simp⟩ ?_
 clear F0
 rintro ⟨fu, g1⟩ ⟨hl2, F1, hn_g1⟩
 dsimp only at hl2 F1 hn_g1 ⊢
 obtain _ | fu := fu
 · rw [zbi] at F1; cases F1
 rw [zbi] at F1
 refine zb (za ?_)
 refine s_lt ?_
 refine zf (zd (zb ?_))
 refine zn F1 ?_ ?_ <;> intro C3 F2
 refine zG 0 (fun B4 => ?_)
 refine zi (zd (zb (zl (zb (za ?_)))))
 refine s_mv ?_
 obtain ⟨v5, V5, F3⟩ := zc F2
 refine zL rI V5 rfl yE23 ?_
 refine zp yA3 ?_
 refine s_as ?_
 refine s_as ?_
 refine zf (zd (zb (za ?_)))
 refine s_mv ?_
 obtain ⟨v6, V6, F4⟩ := zc F3
 refine zz [] (zbU fu _ _ _ _ V6) ?_
 refine zbC ?_
 refine s_mv ?_
 refine zy _ 15 F4 ?_ ?_ <;> intro C7 F5
 iterate 11 refine r_no rfl ?_
 refine zC ?_
 refine zf (zd (zM rfl (zb (za ?_))))
 refine s_as ?_
 refine zf (zd (zh (zj (zg (zu (zj (zg (zm ?_))))))))
 cases F5
 exact zk [] [] Tryz.results93
 refine s_mv ?_
 refine s_gt ?_
 refine s_mv ?_
 refine zy _ 18 F5 ?_ ?_ <;> intro C8 F6
 refine s_mv ?_
 refine s_mv ?_
 refine s_sub rfl ?_
 obtain ⟨v9, V9, F7⟩ := zc F6
 refine zL rI V9 rfl yE23 ?_
 refine zp yA3 ?_
 refine s_mv ?_
 refine s_ge ?_
 refine zC ?_
 refine zF ?_
 refine zf (zd ?_)
 refine zn F7 ?_ ?_ <;> intro C10 F8
 refine zb (za ?_)
 refine s_as ?_
 refine zf (zd (zh (zj (zg (zu (zj (zg (zm ?_))))))))
 cases F8
 exact zk [] [] Tryz.results93
 refine zi (z6 (zd (za ?_)))
 refine zI (zak C3 B4 hn_g1) ?_
 refine s_mv ?_
 refine zf ?_
 exact s_rn (fu, (g1 + 1)) ⟨by first | omega | (dsimp only; omega), F8, by first | omega | (dsimp only; omega)⟩
 iterate 7 refine r_no rfl ?_
 refine zF ?_
 refine zF ?_
 refine zf (zd (zci rfl (zi (z6 (zd (za ?_))))))
 refine zI (zak C3 B4 hn_g1) ?_
 refine s_mv ?_
 refine zf ?_
 exact s_rn (fu, (g1 + 1)) ⟨by first | omega | (dsimp only; omega), F6, by first | omega | (dsimp only; omega)⟩
 refine zB (zw (zr (zx (zd (zb (za ?_))))))
 refine s_mv ?_
 refine zE yU23 ?_
 refine s_le ?_
 refine s_as ?_
 refine zf (zd (zh (zm ?_)))
 cases F2
 exact zk [] [] Tryz.results93
def m_slices_Equal_int_AC (fuel : Nat) : Prop := ∀ (x1 : (List Int)) (x2 : (List Int)) (r : Bool), zcy fuel x1 x2 = some r → AC Tryz.prog 97 [.t (.sl (x1.map rI)), .t (.sl (x2.map rI))] noOb (.t (.sc (.bool r))) noOb
theorem zf6 (fuel : Nat) : m_slices_Equal_int_AC fuel := by
 intro x1 x2 r F0
 unfold zcy at F0
 refine AC_i [.t (.sc (.bool r))] Tryz.func97 rfl Tryz.ntmps97 ?_
 intro C hC
 refine zb (za ?_)
 refine s_as ?_
 refine zf (zd (zb (zb (za ?_))))
 refine s_mv ?_
 refine zE yU23 ?_
 refine s_mv ?_
 refine zE yU23 ?_
 refine s_ne ?_
 refine zf (zd ?_)
 refine zn F0 ?_ ?_ <;> intro C1 F1
 refine zb (za ?_)
 refine s_as ?_
 refine zf (zd (zh (zg (zm ?_))))
 cases F1
 exact zk [] [] Tryz.results97
 refine zi (zd (zb (zb (za ?_))))
 refine s_mv ?_
 refine zE yU23 ?_
 refine s_mv ?_
 refine zf (zd (zl ?_))
 refine zap (β := Int) [4, 5, 13, 14, 15, 16, 17, 18, 19, 20, 21, 22, 23, 24, 25] [] [] (fun a => [(13, .t (.sc (.int .i64 a.2)))]) (fun a => []) (fun a => a.1 ≤ fuel ∧ zbr a.1 x1 x2 a.2 = some r ∧ 0 ≤ a.2) (fuel, 0) ⟨Nat.le_refl _, F1, by simp⟩ ?_
 clear F1
 rintro ⟨fu, g2⟩ ⟨hl3, F2, hn_g2⟩
 dsimp only at hl3 F2 hn_g2 ⊢
 obtain _ | fu := fu
 · rw [zbr] at F2; cases F2
 rw [zbr] at F2
 refine zb (za ?_)
 refine s_lt ?_
 refine zf (zd (zb ?_))
 refine zn F2 ?_ ?_ <;> intro C4 F3
 refine zG 0 (fun B5 => ?_)
 refine zi (zd (zb (zl (zb (za ?_)))))
 refine s_mv ?_
 refine s_as ?_
 refine zf (zd (zb ?_))
 refine zaf yMix (by kernel_rfl) ?_
 refine s_mv ?_
 refine s_mv ?_
 obtain ⟨v6, V6, F4⟩ := zc F3
 refine zL rI V6 rfl yE23 ?_
 refine zp yA3 ?_
 refine s_mv ?_
 refine s_mv ?_
 obtain ⟨v7, V7, F5⟩ := zc F4
 refine zL rI V7 rfl yE23 ?_
 refine zp yA3 ?_
 refine s_ne ?_
 refine zao (by kernel_rfl) ?_
 refine zd ?_
 refine zn F5 ?_ ?_ <;> intro C8 F6
 refine zb (za ?_)
 refine s_as ?_
 refine zf (zd (zh (zj (zg (zu (zj (zg (zm ?_))))))))
 cases F6
 exact zk [] [] Tryz.results97
 refine zi (z6 (zd (za ?_)))
 refine zI (zak C4 B5 hn_g2) ?_
 refine s_mv ?_
 refine zf ?_
 exact s_rn (fu, (g2 + 1)) ⟨by first | omega | (dsimp only; omega), F6, by first | omega | (dsimp only; omega)⟩
 refine zB (zw (zr (zx (zd (zb (za ?_))))))
 refine s_as ?_
 refine zf (zd (zh (zm ?_)))
 cases F3
 exact zk [] [] Tryz.results97
def m_impl_BindsValid_1_AC (fuel : Nat) : Prop := ∀ (x1 : Bind) (o1 : Bind) (r : Bool), zc4 fuel x1 o1 = some r → AC Tryz.prog 96 [.ag [.t (.sc (.str x1.name)), .t (.sl (x1.scopes.map rI)), .t (.sc (.int .i64 x1.id))], .rf 9000 0] (objs [(9000, .box [.t (.sc (.str o1.name)), .t (.sl (o1.scopes.map rI)), .t (.sc (.int .i64 o1.id))])]) (.t (.sc (.bool r))) (objs [(9000, .box [.t (.sc (.str o1.name)), .t (.sl (o1.scopes.map rI)), .t (.sc (.int .i64 o1.id))])])
theorem m_impl_BindsValid_1_ok (fuel : Nat) : m_impl_BindsValid_1_AC fuel := by
 intro x1 o1 r F0
 unfold zc4 at F0
 refine AC_i [.t (.sc (.bool r))] Tryz.func96 rfl Tryz.ntmps96 ?_
 intro C hC
 refine zb (za ?_)
 refine zaF ?_
 refine s_as ?_
 refine zf (zd (zb (za ?_)))
 refine s_fa yF83_0 ?_
 refine zp yA9 ?_
 refine s_fa yF83_0 ?_
 refine zp yA9 ?_
 refine s_eqS ?_
 refine s_mv ?_
 refine zy _ 9 F0 ?_ ?_ <;> intro C1 F1
 refine s_fa yF83_1 ?_
 refine zp yA23 ?_
 refine s_fa yF83_1 ?_
 refine zp yA23 ?_
 obtain ⟨v2, V2, F2⟩ := zc F1
 refine zz [] (zf6 fuel _ _ _ V2) ?_
 refine zC ?_
 refine s_as ?_
 refine zf (zd (zh (zm ?_)))
 cases F2
 exact zk _ [] Tryz.results96
 iterate 5 refine r_no rfl ?_
 refine zF ?_
 refine s_as ?_
 refine zf (zd (zh (zm ?_)))
 cases F1
 exact zk _ [] Tryz.results96
def zey (fuel : Nat) : Prop := ∀ (x1 : (List Bind)) (o1 : Bind) (r : Int), zaM fuel x1 o1 = some r → AC Tryz.prog 131 [.t (.sl (x1.map Bind.row)), .fn 96 [.rf 9000 0]] (objs [(9000, .box [.t (.sc (.str o1.name)), .t (.sl (o1.scopes.map rI)), .t (.sc (.int .i64 o1.id))])]) (.t (.sc (.int .i64 r))) (objs [(9000, .box [.t (.sc (.str o1.name)), .t (.sl (o1.scopes.map rI)), .t (.sc (.int .i64 o1.id))])])
theorem zex (fuel : Nat) : zey fuel := by
 intro x1 o1 r F0
 unfold zaM at F0
 refine AC_i [.t (.sc (.int .i64 r))] Tryz.func131 rfl Tryz.ntmps131 ?_
 intro C hC
 refine zb (za ?_)
 refine s_as ?_
 refine zf (zd (zb (zb (za ?_))))
 refine s_mv ?_
 refine zE yU33 ?_
 refine s_mv ?_
 refine zf (zd (zl ?_))
 refine zap (β := Int) [4, 5, 8, 9, 10, 11, 12, 13, 14, 15, 16, 17, 18] [] [] (fun a => [(8, .t (.sc (.int .i64 a.2)))]) (fun a => []) (fun a => a.1 ≤ fuel ∧ zK a.1 x1 o1 a.2 = some r ∧ 0 ≤ a.2) (fuel, 0) ⟨Nat.le_refl _, F0, by simp⟩ ?_
 clear F0
 rintro ⟨fu, g1⟩ ⟨hl2, F1, hn_g1⟩
 dsimp only at hl2 F1 hn_g1 ⊢
 obtain _ | fu := fu
 · rw [zK] at F1; cases F1
 rw [zK] at F1
 refine zb (za ?_)
 refine s_lt ?_
 refine zf (zd (zb ?_))
 refine zn F1 ?_ ?_ <;> intro C3 F2
 refine zG 0 (fun B4 => ?_)
 refine zi (zd (zb (zl (zb (za ?_)))))
 refine s_mv ?_
 refine s_as ?_
 refine zf (zd (zb (za ?_)))
 iterate 3 refine s_mv ?_
 obtain ⟨v5, V5, F3⟩ := zc F2
 refine zL Bind.row V5 (Bind.row_eq _) yE33 ?_
 refine zag yA83 yS83 ?_
 obtain ⟨v6, V6, F4⟩ := zc F3
 refine zQ [(9000, 9000)] [] _ _ (m_impl_BindsValid_1_ok fu _ _ _ V6) ?_
 refine zf (zd ?_)
 refine zn F4 ?_ ?_ <;> intro C7 F5
 refine zb (za ?_)
 refine s_mv ?_
 refine s_as ?_
 refine zf (zd (zh (zj (zg (zu (zj (zg (zm ?_))))))))
 cases F5
 exact zk _ [] Tryz.results131
 refine zi (z6 (zd (za ?_)))
 refine zI (zak C3 B4 hn_g1) ?_
 refine s_mv ?_
 refine zf ?_
 exact s_rn (fu, (g1 + 1)) ⟨by first | omega | (dsimp only; omega), F5, by first | omega | (dsimp only; omega)⟩
 refine zB (zw (zr (zx (zd (zb (za ?_))))))
 refine s_as ?_
 refine zf (zd (zh (zm ?_)))
 cases F2
 exact zk _ [] Tryz.results131
end Go.Abs
