/- A part of the proof: what the functions that the law calls answer, as pure values. -/
import Derived.Test.YtcebadpiebamdaaGreatKfbd980a3bd19
import Derived.Test.YtcebadpiebamdaaGreatKa582fa74ce31
import Derived.Test.YtcebadpiebamdaaGreatKf37186a4b7f9
import Derived.Test.YtcebadpiebamdaaGreatKf8de2f3a577a
set_option linter.unusedSimpArgs false
set_option linter.unusedVariables false
set_option maxRecDepth 100000
set_option maxHeartbeats 4000000
namespace Go.Abs
open Go.Proofs
def zdn (fuel : Nat) : Prop := ∀ (x1 : (List Form)) (x2 : Int) (r : (Int × (List Form))), zaC fuel x1 x2 = some r → AC Tryz.prog 20 [.ar 9300, .t (.sc (.int .i64 x2))] (objs [(9300, .dar (x1.map (Form.rowD 3 37)) 37)]) (.t (.sc (.int .i64 r.1))) (objs [(9300, .dar (r.2.map (Form.rowD 3 37)) 37)])
theorem m_laws_markFormS_D_st (fu : Nat) (ih_m_laws_markFormS_D : ∀ k, k ≤ fu → zdn k) : zdn (fu + 1) := by
 intro x1 x2 r F0
 rw [zaC] at F0
 refine AC_i [.t (.sc (.int .i64 r.1))] Tryz.func20 rfl Tryz.ntmps20 ?_
 intro C hC
 refine zb (za ?_)
 refine s_as ?_
 refine zf (zd (zb (zb (za ?_))))
 refine s_as ?_
 refine zf (zd (zl ?_))
 refine zap (β := Int × Int × (List Form)) [1, 5, 6, 7, 8, 9, 10, 11, 12, 13, 14, 15, 16, 17, 18, 19, 20, 21, 22, 23, 24, 25, 26, 27, 28, 29, 30, 31, 32, 33, 34, 35, 36, 37, 38, 39, 40, 41, 42, 43, 44, 45, 46, 47] [9300] [38, 45] (fun a => [(1, .t (.sc (.int .i64 a.2.1))), (5, .t (.sc (.int .i64 a.2.2.1)))]) (fun a => [(9300, .dar (a.2.2.2.map (Form.rowD 3 37)) 37)]) (fun a => a.1 ≤ fu ∧ zbt a.1  a.2.1 a.2.2.1 a.2.2.2 = some r) (fu, x2, 0, x1) ⟨Nat.le_refl _, F0⟩ ?_
 clear F0
 rintro ⟨fu, g1, g2, g3⟩ ⟨hl4, F1⟩
 dsimp only at hl4 F1 ⊢
 obtain _ | fu := fu
 · rw [zbt] at F1; cases F1
 rw [zbt] at F1
 refine zb (zb (za ?_))
 refine s_mv ?_
 refine s_mv ?_
 refine s_lenD yU35 ?_
 refine s_lt ?_
 refine zf (zd ?_)
 refine zn F1 ?_ ?_ <;> intro C5 F2
 refine zi (zd (zb (zl (zb (za ?_)))))
 iterate 3 refine s_mv ?_
 obtain ⟨v6, V6, F3⟩ := zc F2
 refine zgf (Form.rowD 3 37) V6 yE35 ?_
 refine s_fa zc8 ?_
 refine s_stC (q := 9300) (off := 0) (u := .sc (.int .i64 g1)) (Form.rowD 3 37) (Form.mk g1 v6.name v6.n v6.scopes v6.kids) V6 (by rw [(Form.rowDE _ _ _), (Form.rowDE _ _ _)]; rfl) yS3 yS37 (hw := by rw [(Form.rowDE _ _ _)]; rfl) ?_
 refine zf (zd (zb (za ?_)))
 refine s_mv ?_
 refine zI rfl ?_
 refine s_as ?_
 refine zf (zd (zb (za ?_)))
 iterate 3 refine s_mv ?_
 obtain ⟨v7, V7, F4⟩ := zc F3
 refine zz [] (zbI fu _ _ V7) ?_
 obtain ⟨v8, V8, F5⟩ := zc F4
 refine zgf (Form.rowD 3 37) V8 yE35 ?_
 refine s_fa zcH ?_
 refine s_stC (q := 9300) (off := 1) (u := .sc (.str v7)) (Form.rowD 3 37) (Form.mk v8.kind v7 v8.n v8.scopes v8.kids) V8 (by rw [(Form.rowDE _ _ _), (Form.rowDE _ _ _)]; rfl) yS9 yS37 (hw := by rw [(Form.rowDE _ _ _)]; rfl) ?_
 refine zf (zd (zb (za ?_)))
 refine s_mv ?_
 refine zI rfl ?_
 refine s_as ?_
 refine zf (zd (zb (za ?_)))
 iterate 3 refine s_mv ?_
 obtain ⟨v9, V9, F6⟩ := zc F5
 refine zgf (Form.rowD 3 37) V9 yE35 ?_
 refine s_fa zep ?_
 refine s_stC (q := 9300) (off := 2) (u := .sc (.int .i64 (w64 ((w64 (g1 + 1)) + 1)))) (Form.rowD 3 37) (Form.mk v9.kind v9.name (w64 ((w64 (g1 + 1)) + 1)) v9.scopes v9.kids) V9 (by rw [(Form.rowDE _ _ _), (Form.rowDE _ _ _)]; rfl) yS3 yS37 (hw := by rw [(Form.rowDE _ _ _)]; rfl) ?_
 refine zf (zd (zb (za ?_)))
 refine s_mv ?_
 refine zI rfl ?_
 refine s_as ?_
 refine zf (zd (zb (za ?_)))
 refine s_mv ?_
 refine s_mv ?_
 obtain ⟨v10, V10, F7⟩ := zc F6
 refine zgf (Form.rowD 3 37) V10 yE35 ?_
 refine s_fa zeu ?_
 refine s_ldHA (Form.rowD 3 37) rI v10.scopes plain_rI V10 yA23 yS37 (hw := by rw [(Form.rowDE _ _ _)]; rfl) ?_
 refine s_mv ?_
 obtain ⟨v11, V11, F8⟩ := zc F7
 refine zQ [(9300, 38)] [] _ _ (zdD fu _ _ _ V11) ?_
 refine s_as ?_
 refine zf (zd ?_)
 refine awp_jsA 9300 38 [.sc (.int .i64 v10.kind), .sc (.str v10.name), .sc (.int .i64 v10.n), .ow 3 (v11.2.map rI), .ow 37 (v10.kids.map (Form.rowD 3 37))] V10 (row := (Form.rowD 3 37)) (hj := by rw [(Form.rowDE _ _ _)]; rfl) (hf := by rw [(Form.rowDE _ _ _)]; rfl) ?_
 refine zfW 9300 (row := (Form.rowD 3 37)) (fs := [.sc (.int .i64 v10.kind), .sc (.str v10.name), .sc (.int .i64 v10.n), .ow 3 (v11.2.map rI), .ow 37 (v10.kids.map (Form.rowD 3 37))]) (Form.mk v10.kind v10.name v10.n v11.2 v10.kids) (Form.rowDE _ _ _) ?_
 refine za ?_
 refine s_mv ?_
 refine s_mv ?_
 obtain ⟨v12, V12, F9⟩ := zc F8
 refine zgf (Form.rowD 3 37) V12 yE35 ?_
 refine s_fa zZ ?_
 refine s_ldHD (Form.rowD 3 37) (Form.rowD 3 37) v12.kids V12 yA35 yS37 (hw := by rw [(Form.rowDE _ _ _)]; rfl) ?_
 refine s_mv ?_
 obtain ⟨v13, V13, F10⟩ := zc F9
 refine zQ [(9300, 45)] [] _ _ (ih_m_laws_markFormS_D fu (by omega) _ _ _ V13) ?_
 refine s_as ?_
 refine zf (z6 (zd ?_))
 refine zg6 9300 45 [.sc (.int .i64 v12.kind), .sc (.str v12.name), .sc (.int .i64 v12.n), .ow 3 (v12.scopes.map rI), .ow 37 (v13.2.map (Form.rowD 3 37))] V12 (row := (Form.rowD 3 37)) (hj := by rw [(Form.rowDE _ _ _)]; rfl) (hf := by rw [(Form.rowDE _ _ _)]; rfl) ?_
 refine zfW 9300 (row := (Form.rowD 3 37)) (fs := [.sc (.int .i64 v12.kind), .sc (.str v12.name), .sc (.int .i64 v12.n), .ow 3 (v12.scopes.map rI), .ow 37 (v13.2.map (Form.rowD 3 37))]) (Form.mk v12.kind v12.name v12.n v12.scopes v13.2) (Form.rowDE _ _ _) ?_
 refine za ?_
 refine s_mv ?_
 refine zI rfl ?_
 refine s_as ?_
 refine zf ?_
 exact s_rn (fu, v13.1, (w64 (g2 + 1)), (((((g3.set g2.toNat (Form.mk g1 v6.name v6.n v6.scopes v6.kids)).set g2.toNat (Form.mk v8.kind v7 v8.n v8.scopes v8.kids)).set g2.toNat (Form.mk v9.kind v9.name (w64 ((w64 (g1 + 1)) + 1)) v9.scopes v9.kids)).set g2.toNat (Form.mk v10.kind v10.name v10.n v11.2 v10.kids)).set g2.toNat (Form.mk v12.kind v12.name v12.n v12.scopes v13.2))) ⟨by first | omega | (dsimp only; omega), F10⟩
 refine zB (zw (zr (zx (zd (zb (za ?_))))))
 refine s_mv ?_
 refine s_as ?_
 refine zf (zd (zh (zm ?_)))
 cases F2
 exact zk _ [] Tryz.results20
theorem m_laws_markFormS_D_all (fuel : Nat) : zdn fuel := by
 induction fuel using Nat.strongRecOn with
 | _ N ih =>
   cases N with
   | zero => exact (by intro x1 x2 r h; rw [zaC] at h; cases h)
   | succ fu => exact m_laws_markFormS_D_st fu (fun k hk => (ih k (by omega)))
theorem zdm (fuel : Nat) : zdn fuel := (m_laws_markFormS_D_all fuel)
def m_laws_markRuleS_D_AC (fuel : Nat) : Prop := ∀ (x1 : (List Rule)) (x2 : Int) (r : (Int × (List Rule))), zda fuel x1 x2 = some r → AC Tryz.prog 37 [.ar 9300, .t (.sc (.int .i64 x2))] (objs [(9300, .dar (x1.map (Rule.rowD 3 37)) 96)]) (.t (.sc (.int .i64 r.1))) (objs [(9300, .dar (r.2.map (Rule.rowD 3 37)) 96)])
theorem zf7 (fuel : Nat) : m_laws_markRuleS_D_AC fuel := by
 intro x1 x2 r F0
 unfold zda at F0
 refine AC_i [.t (.sc (.int .i64 r.1))] Tryz.func37 rfl Tryz.ntmps37 ?_
 intro C hC
 refine zb (za ?_)
 refine s_as ?_
 refine zf (zd (zb (zb (za ?_))))
 refine s_as ?_
 refine zf (zd (zl ?_))
 refine zap (β := Int × Int × (List Rule)) [1, 5, 6, 7, 8, 9, 10, 11, 12, 13, 14, 15, 16, 17, 18, 19, 20, 21, 22, 23, 24, 25, 26, 27, 28, 29, 30, 31, 32, 33, 34, 35, 36, 37, 38, 39, 40, 41, 42, 43, 44, 45, 46, 47, 48, 49, 50, 51, 52, 53, 54, 55, 56, 57, 58, 59, 60, 61, 62, 63, 64, 65, 66, 67, 68, 69, 70, 71, 72, 73, 74, 75, 76, 77, 78, 79, 80, 81, 82, 83, 84, 85, 86, 87, 88, 89, 90, 91, 92, 93] [9300] [42, 50, 83, 91] (fun a => [(1, .t (.sc (.int .i64 a.2.1))), (5, .t (.sc (.int .i64 a.2.2.1)))]) (fun a => [(9300, .dar (a.2.2.2.map (Rule.rowD 3 37)) 96)]) (fun a => a.1 ≤ fuel ∧ zbs a.1  a.2.1 a.2.2.1 a.2.2.2 = some r) (fuel, x2, 0, x1) ⟨Nat.le_refl _, F0⟩ ?_
 clear F0
 rintro ⟨fu, g1, g2, g3⟩ ⟨hl4, F1⟩
 dsimp only at hl4 F1 ⊢
 obtain _ | fu := fu
 · rw [zbs] at F1; cases F1
 rw [zbs] at F1
 refine zb (zb (za ?_))
 refine s_mv ?_
 refine s_mv ?_
 refine s_lenD yU53 ?_
 refine s_lt ?_
 refine zf (zd ?_)
 refine zn F1 ?_ ?_ <;> intro C5 F2
 refine zi (zd (zb (zl (zb (za ?_)))))
 iterate 3 refine s_mv ?_
 obtain ⟨v6, V6, F3⟩ := zc F2
 refine zgf (Rule.rowD 3 37) V6 yE53 ?_
 refine s_fa zd3 ?_
 refine s_fa zc8 ?_
 refine s_stC (q := 9300) (off := 0) (u := .sc (.int .i64 g1)) (Rule.rowD 3 37) (Rule.mk (Form.mk g1 v6.pattern.name v6.pattern.n v6.pattern.scopes v6.pattern.kids) v6.template) V6 (by rw [(Rule.rowDE _ _ _), (Rule.rowDE _ _ _)]; rfl) yS3 yS96 (hw := by rw [(Rule.rowDE _ _ _)]; rfl) ?_
 refine zf (zd (zb (za ?_)))
 refine s_mv ?_
 refine zI rfl ?_
 refine s_as ?_
 refine zf (zd (zb (za ?_)))
 iterate 3 refine s_mv ?_
 obtain ⟨v7, V7, F4⟩ := zc F3
 refine zz [] (zbI fu _ _ V7) ?_
 obtain ⟨v8, V8, F5⟩ := zc F4
 refine zgf (Rule.rowD 3 37) V8 yE53 ?_
 refine s_fa zd3 ?_
 refine s_fa zcH ?_
 refine s_stC (q := 9300) (off := 1) (u := .sc (.str v7)) (Rule.rowD 3 37) (Rule.mk (Form.mk v8.pattern.kind v7 v8.pattern.n v8.pattern.scopes v8.pattern.kids) v8.template) V8 (by rw [(Rule.rowDE _ _ _), (Rule.rowDE _ _ _)]; rfl) yS9 yS96 (hw := by rw [(Rule.rowDE _ _ _)]; rfl) ?_
 refine zf (zd (zb (za ?_)))
 refine s_mv ?_
 refine zI rfl ?_
 refine s_as ?_
 refine zf (zd (zb (za ?_)))
 iterate 3 refine s_mv ?_
 obtain ⟨v9, V9, F6⟩ := zc F5
 refine zgf (Rule.rowD 3 37) V9 yE53 ?_
 refine s_fa zd3 ?_
 refine s_fa zep ?_
 refine s_stC (q := 9300) (off := 2) (u := .sc (.int .i64 (w64 ((w64 (g1 + 1)) + 1)))) (Rule.rowD 3 37) (Rule.mk (Form.mk v9.pattern.kind v9.pattern.name (w64 ((w64 (g1 + 1)) + 1)) v9.pattern.scopes v9.pattern.kids) v9.template) V9 (by rw [(Rule.rowDE _ _ _), (Rule.rowDE _ _ _)]; rfl) yS3 yS96 (hw := by rw [(Rule.rowDE _ _ _)]; rfl) ?_
 refine zf (zd (zb (za ?_)))
 refine s_mv ?_
 refine zI rfl ?_
 refine s_as ?_
 refine zf (zd (zb (za ?_)))
 refine s_mv ?_
 refine s_mv ?_
 obtain ⟨v10, V10, F7⟩ := zc F6
 refine zgf (Rule.rowD 3 37) V10 yE53 ?_
 refine s_fa zd3 ?_
 refine s_fa zeu ?_
 refine s_ldHA (Rule.rowD 3 37) rI v10.pattern.scopes plain_rI V10 yA23 yS96 (hw := by rw [(Rule.rowDE _ _ _)]; rfl) ?_
 refine s_mv ?_
 obtain ⟨v11, V11, F8⟩ := zc F7
 refine zQ [(9300, 42)] [] _ _ (zdD fu _ _ _ V11) ?_
 refine s_as ?_
 refine zf (zd ?_)
 refine awp_jsA 9300 42 [.sc (.int .i64 v10.pattern.kind), .sc (.str v10.pattern.name), .sc (.int .i64 v10.pattern.n), .ow 3 (v11.2.map rI), .ow 37 (v10.pattern.kids.map (Form.rowD 3 37)), .sc (.int .i64 v10.template.kind), .sc (.str v10.template.name), .sc (.int .i64 v10.template.n), .ow 3 (v10.template.scopes.map rI), .ow 37 (v10.template.kids.map (Form.rowD 3 37))] V10 (row := (Rule.rowD 3 37)) (hj := by rw [(Rule.rowDE _ _ _)]; rfl) (hf := by rw [(Rule.rowDE _ _ _)]; rfl) ?_
 refine zfW 9300 (row := (Rule.rowD 3 37)) (fs := [.sc (.int .i64 v10.pattern.kind), .sc (.str v10.pattern.name), .sc (.int .i64 v10.pattern.n), .ow 3 (v11.2.map rI), .ow 37 (v10.pattern.kids.map (Form.rowD 3 37)), .sc (.int .i64 v10.template.kind), .sc (.str v10.template.name), .sc (.int .i64 v10.template.n), .ow 3 (v10.template.scopes.map rI), .ow 37 (v10.template.kids.map (Form.rowD 3 37))]) (Rule.mk (Form.mk v10.pattern.kind v10.pattern.name v10.pattern.n v11.2 v10.pattern.kids) v10.template) (Rule.rowDE _ _ _) ?_
 refine zb (za ?_)
 refine s_mv ?_
 refine s_mv ?_
 obtain ⟨v12, V12, F9⟩ := zc F8
 refine zgf (Rule.rowD 3 37) V12 yE53 ?_
 refine s_fa zd3 ?_
 refine s_fa zZ ?_
 refine s_ldHD (Rule.rowD 3 37) (Form.rowD 3 37) v12.pattern.kids V12 yA35 yS96 (hw := by rw [(Rule.rowDE _ _ _)]; rfl) ?_
 refine s_mv ?_
 obtain ⟨v13, V13, F10⟩ := zc F9
 refine zQ [(9300, 50)] [] _ _ (zdm fu _ _ _ V13) ?_
 refine s_as ?_
 refine zf (zd ?_)
 refine zg6 9300 50 [.sc (.int .i64 v12.pattern.kind), .sc (.str v12.pattern.name), .sc (.int .i64 v12.pattern.n), .ow 3 (v12.pattern.scopes.map rI), .ow 37 (v13.2.map (Form.rowD 3 37)), .sc (.int .i64 v12.template.kind), .sc (.str v12.template.name), .sc (.int .i64 v12.template.n), .ow 3 (v12.template.scopes.map rI), .ow 37 (v12.template.kids.map (Form.rowD 3 37))] V12 (row := (Rule.rowD 3 37)) (hj := by rw [(Rule.rowDE _ _ _)]; rfl) (hf := by rw [(Rule.rowDE _ _ _)]; rfl) ?_
 refine zfW 9300 (row := (Rule.rowD 3 37)) (fs := [.sc (.int .i64 v12.pattern.kind), .sc (.str v12.pattern.name), .sc (.int .i64 v12.pattern.n), .ow 3 (v12.pattern.scopes.map rI), .ow 37 (v13.2.map (Form.rowD 3 37)), .sc (.int .i64 v12.template.kind), .sc (.str v12.template.name), .sc (.int .i64 v12.template.n), .ow 3 (v12.template.scopes.map rI), .ow 37 (v12.template.kids.map (Form.rowD 3 37))]) (Rule.mk (Form.mk v12.pattern.kind v12.pattern.name v12.pattern.n v12.pattern.scopes v13.2) v12.template) (Rule.rowDE _ _ _) ?_
 refine zb (za ?_)
 iterate 3 refine s_mv ?_
 obtain ⟨v14, V14, F11⟩ := zc F10
 refine zgf (Rule.rowD 3 37) V14 yE53 ?_
 refine s_fa zfr ?_
 refine s_fa zc8 ?_
 refine s_stC (q := 9300) (off := 5) (u := .sc (.int .i64 v13.1)) (Rule.rowD 3 37) (Rule.mk v14.pattern (Form.mk v13.1 v14.template.name v14.template.n v14.template.scopes v14.template.kids)) V14 (by rw [(Rule.rowDE _ _ _), (Rule.rowDE _ _ _)]; rfl) yS3 yS96 (hw := by rw [(Rule.rowDE _ _ _)]; rfl) ?_
 refine zf (zd (zb (za ?_)))
 refine s_mv ?_
 refine zI rfl ?_
 refine s_as ?_
 refine zf (zd (zb (za ?_)))
 iterate 3 refine s_mv ?_
 obtain ⟨v15, V15, F12⟩ := zc F11
 refine zz [] (zbI fu _ _ V15) ?_
 obtain ⟨v16, V16, F13⟩ := zc F12
 refine zgf (Rule.rowD 3 37) V16 yE53 ?_
 refine s_fa zfr ?_
 refine s_fa zcH ?_
 refine s_stC (q := 9300) (off := 6) (u := .sc (.str v15)) (Rule.rowD 3 37) (Rule.mk v16.pattern (Form.mk v16.template.kind v15 v16.template.n v16.template.scopes v16.template.kids)) V16 (by rw [(Rule.rowDE _ _ _), (Rule.rowDE _ _ _)]; rfl) yS9 yS96 (hw := by rw [(Rule.rowDE _ _ _)]; rfl) ?_
 refine zf (zd (zb (za ?_)))
 refine s_mv ?_
 refine zI rfl ?_
 refine s_as ?_
 refine zf (zd (zb (za ?_)))
 iterate 3 refine s_mv ?_
 obtain ⟨v17, V17, F14⟩ := zc F13
 refine zgf (Rule.rowD 3 37) V17 yE53 ?_
 refine s_fa zfr ?_
 refine s_fa zep ?_
 refine s_stC (q := 9300) (off := 7) (u := .sc (.int .i64 (w64 ((w64 (v13.1 + 1)) + 1)))) (Rule.rowD 3 37) (Rule.mk v17.pattern (Form.mk v17.template.kind v17.template.name (w64 ((w64 (v13.1 + 1)) + 1)) v17.template.scopes v17.template.kids)) V17 (by rw [(Rule.rowDE _ _ _), (Rule.rowDE _ _ _)]; rfl) yS3 yS96 (hw := by rw [(Rule.rowDE _ _ _)]; rfl) ?_
 refine zf (zd (zb (za ?_)))
 refine s_mv ?_
 refine zI rfl ?_
 refine s_as ?_
 refine zf (zd (zb (za ?_)))
 refine s_mv ?_
 refine s_mv ?_
 obtain ⟨v18, V18, F15⟩ := zc F14
 refine zgf (Rule.rowD 3 37) V18 yE53 ?_
 refine s_fa zfr ?_
 refine s_fa zeu ?_
 refine s_ldHA (Rule.rowD 3 37) rI v18.template.scopes plain_rI V18 yA23 yS96 (hw := by rw [(Rule.rowDE _ _ _)]; rfl) ?_
 refine s_mv ?_
 obtain ⟨v19, V19, F16⟩ := zc F15
 refine zQ [(9300, 83)] [] _ _ (zdD fu _ _ _ V19) ?_
 refine s_as ?_
 refine zf (zd ?_)
 refine awp_jsA 9300 83 [.sc (.int .i64 v18.pattern.kind), .sc (.str v18.pattern.name), .sc (.int .i64 v18.pattern.n), .ow 3 (v18.pattern.scopes.map rI), .ow 37 (v18.pattern.kids.map (Form.rowD 3 37)), .sc (.int .i64 v18.template.kind), .sc (.str v18.template.name), .sc (.int .i64 v18.template.n), .ow 3 (v19.2.map rI), .ow 37 (v18.template.kids.map (Form.rowD 3 37))] V18 (row := (Rule.rowD 3 37)) (hj := by rw [(Rule.rowDE _ _ _)]; rfl) (hf := by rw [(Rule.rowDE _ _ _)]; rfl) ?_
 refine zfW 9300 (row := (Rule.rowD 3 37)) (fs := [.sc (.int .i64 v18.pattern.kind), .sc (.str v18.pattern.name), .sc (.int .i64 v18.pattern.n), .ow 3 (v18.pattern.scopes.map rI), .ow 37 (v18.pattern.kids.map (Form.rowD 3 37)), .sc (.int .i64 v18.template.kind), .sc (.str v18.template.name), .sc (.int .i64 v18.template.n), .ow 3 (v19.2.map rI), .ow 37 (v18.template.kids.map (Form.rowD 3 37))]) (Rule.mk v18.pattern (Form.mk v18.template.kind v18.template.name v18.template.n v19.2 v18.template.kids)) (Rule.rowDE _ _ _) ?_
 refine za ?_
 refine s_mv ?_
 refine s_mv ?_
 obtain ⟨v20, V20, F17⟩ := zc F16
 refine zgf (Rule.rowD 3 37) V20 yE53 ?_
 refine s_fa zfr ?_
 refine s_fa zZ ?_
 refine s_ldHD (Rule.rowD 3 37) (Form.rowD 3 37) v20.template.kids V20 yA35 yS96 (hw := by rw [(Rule.rowDE _ _ _)]; rfl) ?_
 refine s_mv ?_
 obtain ⟨v21, V21, F18⟩ := zc F17
 refine zQ [(9300, 91)] [] _ _ (zdm fu _ _ _ V21) ?_
 refine s_as ?_
 refine zf (z6 (zd ?_))
 refine zg6 9300 91 [.sc (.int .i64 v20.pattern.kind), .sc (.str v20.pattern.name), .sc (.int .i64 v20.pattern.n), .ow 3 (v20.pattern.scopes.map rI), .ow 37 (v20.pattern.kids.map (Form.rowD 3 37)), .sc (.int .i64 v20.template.kind), .sc (.str v20.template.name), .sc (.int .i64 v20.template.n), .ow 3 (v20.template.scopes.map rI), .ow 37 (v21.2.map (Form.rowD 3 37))] V20 (row := (Rule.rowD 3 37)) (hj := by rw [(Rule.rowDE _ _ _)]; rfl) (hf := by rw [(Rule.rowDE _ _ _)]; rfl) ?_
 refine zfW 9300 (row := (Rule.rowD 3 37)) (fs := [.sc (.int .i64 v20.pattern.kind), .sc (.str v20.pattern.name), .sc (.int .i64 v20.pattern.n), .ow 3 (v20.pattern.scopes.map rI), .ow 37 (v20.pattern.kids.map (Form.rowD 3 37)), .sc (.int .i64 v20.template.kind), .sc (.str v20.template.name), .sc (.int .i64 v20.template.n), .ow 3 (v20.template.scopes.map rI), .ow 37 (v21.2.map (Form.rowD 3 37))]) (Rule.mk v20.pattern (Form.mk v20.template.kind v20.template.name v20.template.n v20.template.scopes v21.2)) (Rule.rowDE _ _ _) ?_
 refine za ?_
 refine s_mv ?_
 refine zI rfl ?_
 refine s_as ?_
 refine zf ?_
 exact s_rn (fu, v21.1, (w64 (g2 + 1)), ((((((((((g3.set g2.toNat (Rule.mk (Form.mk g1 v6.pattern.name v6.pattern.n v6.pattern.scopes v6.pattern.kids) v6.template)).set g2.toNat (Rule.mk (Form.mk v8.pattern.kind v7 v8.pattern.n v8.pattern.scopes v8.pattern.kids) v8.template)).set g2.toNat (Rule.mk (Form.mk v9.pattern.kind v9.pattern.name (w64 ((w64 (g1 + 1)) + 1)) v9.pattern.scopes v9.pattern.kids) v9.template)).set g2.toNat (Rule.mk (Form.mk v10.pattern.kind v10.pattern.name v10.pattern.n v11.2 v10.pattern.kids) v10.template)).set g2.toNat (Rule.mk (Form.mk v12.pattern.kind v12.pattern.name v12.pattern.n v12.pattern.scopes v13.2) v12.template)).set g2.toNat (Rule.mk v14.pattern (Form.mk v13.1 v14.template.name v14.template.n v14.template.scopes v14.template.kids))).set g2.toNat (Rule.mk v16.pattern (Form.mk v16.template.kind v15 v16.template.n v16.template.scopes v16.template.kids))).set g2.toNat (Rule.mk v17.pattern (Form.mk v17.template.kind v17.template.name (w64 ((w64 (v13.1 + 1)) + 1)) v17.template.scopes v17.template.kids))).set g2.toNat (Rule.mk v18.pattern (Form.mk v18.template.kind v18.template.name v18.template.n v19.2 v18.template.kids))).set g2.toNat (Rule.mk v20.pattern (Form.mk v20.template.kind v20.template.name v20.template.n v20.template.scopes v21.2)))) ⟨by first | omega | (dsimp only; omega), F18⟩
 refine zB (zw (zr (zx (zd (zb (za ?_))))))
 refine s_mv ?_
 refine s_as ?_
 refine zf (zd (zh (zm ?_)))
 cases F2
 exact zk _ [] Tryz.results37
def m_laws_markMacroS_D_AC (fuel : Nat) : Prop := ∀ (x1 : (List zq)) (x2 : Int) (r : (Int × (List zq))), zdN fuel x1 x2 = some r → AC Tryz.prog 68 [.ar 9300, .t (.sc (.int .i64 x2))] (objs [(9300, .dar (x1.map (zq.rowD 3 37 96)) 55)]) (.t (.sc (.int .i64 r.1))) (objs [(9300, .dar (r.2.map (zq.rowD 3 37 96)) 55)])
theorem m_laws_markMacroS_D_ok (fuel : Nat) : m_laws_markMacroS_D_AC fuel := by
 intro x1 x2 r F0
 unfold zdN at F0
 refine AC_i [.t (.sc (.int .i64 r.1))] Tryz.func68 rfl Tryz.ntmps68 ?_
 intro C hC
 refine zb (za ?_)
 refine s_as ?_
 refine zf (zd (zb (zb (za ?_))))
 refine s_as ?_
 refine zf (zd (zl ?_))
 refine zap (β := Int × Int × (List zq)) [1, 5, 6, 7, 8, 9, 10, 11, 12, 13, 14, 15, 16, 17, 18, 19, 20, 21, 22, 23, 24, 25, 26, 27, 28, 29, 30, 31, 32] [9300] [23, 30] (fun a => [(1, .t (.sc (.int .i64 a.2.1))), (5, .t (.sc (.int .i64 a.2.2.1)))]) (fun a => [(9300, .dar (a.2.2.2.map (zq.rowD 3 37 96)) 55)]) (fun a => a.1 ≤ fuel ∧ za9 a.1  a.2.1 a.2.2.1 a.2.2.2 = some r) (fuel, x2, 0, x1) ⟨Nat.le_refl _, F0⟩ ?_
 clear F0
 rintro ⟨fu, g1, g2, g3⟩ ⟨hl4, F1⟩
 dsimp only at hl4 F1 ⊢
 obtain _ | fu := fu
 · rw [za9] at F1; cases F1
 rw [za9] at F1
 refine zb (zb (za ?_))
 refine s_mv ?_
 refine s_mv ?_
 refine s_lenD yU58 ?_
 refine s_lt ?_
 refine zf (zd ?_)
 refine zn F1 ?_ ?_ <;> intro C5 F2
 refine zi (zd (zb (zl (zb (za ?_)))))
 iterate 3 refine s_mv ?_
 obtain ⟨v6, V6, F3⟩ := zc F2
 refine zgf (zq.rowD 3 37 96) V6 yE58 ?_
 refine s_fa zgJ ?_
 refine s_stC (q := 9300) (off := 0) (u := .sc (.int .i64 g1)) (zq.rowD 3 37 96) (zq.mk g1 v6.literals v6.rules) V6 (by rw [(zq.rowDE _ _ _ _), (zq.rowDE _ _ _ _)]; rfl) yS3 yS55 (hw := by rw [(zq.rowDE _ _ _ _)]; rfl) ?_
 refine zf (zd (zb (za ?_)))
 refine s_mv ?_
 refine zI rfl ?_
 refine s_as ?_
 refine zf (zd (zb (za ?_)))
 refine s_mv ?_
 refine s_mv ?_
 obtain ⟨v7, V7, F4⟩ := zc F3
 refine zgf (zq.rowD 3 37 96) V7 yE58 ?_
 refine s_fa zfy ?_
 refine s_ldHD (zq.rowD 3 37 96) (Form.rowD 3 37) v7.literals V7 yA35 yS55 (hw := by rw [(zq.rowDE _ _ _ _)]; rfl) ?_
 refine s_mv ?_
 obtain ⟨v8, V8, F5⟩ := zc F4
 refine zQ [(9300, 23)] [] _ _ (zdm fu _ _ _ V8) ?_
 refine s_as ?_
 refine zf (zd ?_)
 refine zg6 9300 23 [.sc (.int .i64 v7.id), .ow 37 (v8.2.map (Form.rowD 3 37)), .ow 96 (v7.rules.map (Rule.rowD 3 37))] V7 (row := (zq.rowD 3 37 96)) (hj := by rw [(zq.rowDE _ _ _ _)]; rfl) (hf := by rw [(zq.rowDE _ _ _ _)]; rfl) ?_
 refine zfW 9300 (row := (zq.rowD 3 37 96)) (fs := [.sc (.int .i64 v7.id), .ow 37 (v8.2.map (Form.rowD 3 37)), .ow 96 (v7.rules.map (Rule.rowD 3 37))]) (zq.mk v7.id v8.2 v7.rules) (zq.rowDE _ _ _ _) ?_
 refine za ?_
 refine s_mv ?_
 refine s_mv ?_
 obtain ⟨v9, V9, F6⟩ := zc F5
 refine zgf (zq.rowD 3 37 96) V9 yE58 ?_
 refine s_fa zfx ?_
 refine s_ldHD (zq.rowD 3 37 96) (Rule.rowD 3 37) v9.rules V9 yA53 yS55 (hw := by rw [(zq.rowDE _ _ _ _)]; rfl) ?_
 refine s_mv ?_
 obtain ⟨v10, V10, F7⟩ := zc F6
 refine zQ [(9300, 30)] [] _ _ (zf7 fu _ _ _ V10) ?_
 refine s_as ?_
 refine zf (z6 (zd ?_))
 refine zg6 9300 30 [.sc (.int .i64 v9.id), .ow 37 (v9.literals.map (Form.rowD 3 37)), .ow 96 (v10.2.map (Rule.rowD 3 37))] V9 (row := (zq.rowD 3 37 96)) (hj := by rw [(zq.rowDE _ _ _ _)]; rfl) (hf := by rw [(zq.rowDE _ _ _ _)]; rfl) ?_
 refine zfW 9300 (row := (zq.rowD 3 37 96)) (fs := [.sc (.int .i64 v9.id), .ow 37 (v9.literals.map (Form.rowD 3 37)), .ow 96 (v10.2.map (Rule.rowD 3 37))]) (zq.mk v9.id v9.literals v10.2) (zq.rowDE _ _ _ _) ?_
 refine za ?_
 refine s_mv ?_
 refine zI rfl ?_
 refine s_as ?_
 refine zf ?_
 exact s_rn (fu, v10.1, (w64 (g2 + 1)), (((g3.set g2.toNat (zq.mk g1 v6.literals v6.rules)).set g2.toNat (zq.mk v7.id v8.2 v7.rules)).set g2.toNat (zq.mk v9.id v9.literals v10.2))) ⟨by first | omega | (dsimp only; omega), F7⟩
 refine zB (zw (zr (zx (zd (zb (za ?_))))))
 refine s_mv ?_
 refine s_as ?_
 refine zf (zd (zh (zm ?_)))
 cases F2
 exact zk _ [] Tryz.results68
def zg1 (fuel : Nat) : Prop := ∀ (x1 : zv) (x2 : Int) (r : (Int × (List Bind) × (List zq))), zcK fuel x1 x2 = some r → AC Tryz.prog 29 [.ag [.ar 9300, .ar 9301, .t (.sc (.int .i64 x1.scope)), .t (.sc (.int .i64 x1.id)), .t (.sc (.int .i64 x1.steps))], .t (.sc (.int .i64 x2))] (objs [(9300, .dar (x1.binds.map (Bind.rowD 3)) 83), (9301, .dar (x1.macros.map (zq.rowD 3 37 96)) 55)]) (.t (.sc (.int .i64 r.1))) (objs [(9300, .dar (r.2.1.map (Bind.rowD 3)) 83), (9301, .dar (r.2.2.map (zq.rowD 3 37 96)) 55)])
theorem zg0 (fuel : Nat) : zg1 fuel := by
 intro x1 x2 r F0
 unfold zcK at F0
 refine AC_i [.t (.sc (.int .i64 r.1))] Tryz.func29 rfl Tryz.ntmps29 ?_
 intro C hC
 refine zb (za ?_)
 refine zaF ?_
 refine s_as ?_
 refine zf (zd (zb (za ?_)))
 refine s_fa yF60_0 ?_
 refine zp yA33 ?_
 refine s_mv ?_
 obtain ⟨v1, V1, F1⟩ := zc F0
 refine zQ [(9300, 9300)] [] _ _ (m_laws_markBindS_D_ok fuel _ _ _ V1) ?_
 refine s_as ?_
 refine zf (zd (zb (za ?_)))
 refine s_fa zd4 ?_
 refine zp yA58 ?_
 refine s_mv ?_
 obtain ⟨v2, V2, F2⟩ := zc F1
 refine zQ [(9300, 9301)] [] _ _ (m_laws_markMacroS_D_ok fuel _ _ _ V2) ?_
 refine s_as ?_
 refine zf (zd (zb (za ?_)))
 refine s_mv ?_
 refine s_as ?_
 refine zf (zd (zh (zm ?_)))
 cases F2
 exact zk _ [] Tryz.results29
def m_laws_markMacro_D_AC (fuel : Nat) : Prop := ∀ (x1 : zq) (x2 : Int) (r : (Int × (List Form) × (List Rule))), zeb fuel x1 x2 = some r → AC Tryz.prog 30 [.ag [.t (.sc (.int .i64 x1.id)), .ar 9301, .ar 9302], .t (.sc (.int .i64 x2))] (objs [(9301, .dar (x1.literals.map (Form.rowD 3 37)) 37), (9302, .dar (x1.rules.map (Rule.rowD 3 37)) 96)]) (.t (.sc (.int .i64 r.1))) (objs [(9301, .dar (r.2.1.map (Form.rowD 3 37)) 37), (9302, .dar (r.2.2.map (Rule.rowD 3 37)) 96)])
theorem m_laws_markMacro_D_ok (fuel : Nat) : m_laws_markMacro_D_AC fuel := by
 intro x1 x2 r F0
 unfold zeb at F0
 refine AC_i [.t (.sc (.int .i64 r.1))] Tryz.func30 rfl Tryz.ntmps30 ?_
 intro C hC
 refine zb (za ?_)
 refine zaF ?_
 refine s_as ?_
 refine zf (zd (zb (za ?_)))
 refine s_fa zfy ?_
 refine zp yA35 ?_
 refine s_mv ?_
 obtain ⟨v1, V1, F1⟩ := zc F0
 refine zQ [(9300, 9301)] [] _ _ (zdm fuel _ _ _ V1) ?_
 refine s_as ?_
 refine zf (zd (zb (za ?_)))
 refine s_fa zfx ?_
 refine zp yA53 ?_
 refine s_mv ?_
 obtain ⟨v2, V2, F2⟩ := zc F1
 refine zQ [(9300, 9302)] [] _ _ (zf7 fuel _ _ _ V2) ?_
 refine s_as ?_
 refine zf (zd (zb (za ?_)))
 refine s_mv ?_
 refine s_as ?_
 refine zf (zd (zh (zm ?_)))
 cases F2
 exact zk _ [] Tryz.results30
def m_laws_heldIntS_AC (fuel : Nat) : Prop := ∀ (x1 : (List Int)) (x2 : Int) (r : Int), zc2 fuel x1 x2 = some r → AC Tryz.prog 57 [.t (.sl (x1.map rI)), .t (.sc (.int .i64 x2))] noOb (.t (.sc (.int .i64 r))) noOb
theorem zfG (fuel : Nat) : m_laws_heldIntS_AC fuel := by
 intro x1 x2 r F0
 unfold zc2 at F0
 refine AC_i [.t (.sc (.int .i64 r))] Tryz.func57 rfl Tryz.ntmps57 ?_
 intro C hC
 refine zb (za ?_)
 refine s_as ?_
 refine zf (zd (zb (zb (za ?_))))
 refine s_as ?_
 refine zf (zd (zl ?_))
 refine zap (β := Int × Int) [1, 4, 5, 6, 7, 8, 9, 10, 11, 12, 13, 14, 15, 16, 17, 18, 19] [] [] (fun a => [(1, .t (.sc (.int .i64 a.2.1))), (5, .t (.sc (.int .i64 a.2.2)))]) (fun a => []) (fun a => a.1 ≤ fuel ∧ zbN a.1 x1 a.2.1 a.2.2 = some r ∧ 0 ≤ a.2.2) (fuel, x2, 0) ⟨Nat.le_refl _, F0, by simp⟩ ?_
 clear F0
 rintro ⟨fu, g1, g2⟩ ⟨hl3, F1, hn_g2⟩
 dsimp only at hl3 F1 hn_g2 ⊢
 obtain _ | fu := fu
 · rw [zbN] at F1; cases F1
 rw [zbN] at F1
 refine zb (zb (za ?_))
 refine s_mv ?_
 refine s_mv ?_
 refine zE yU23 ?_
 refine s_lt ?_
 refine zf (zd ?_)
 refine zn F1 ?_ ?_ <;> intro C4 F2
 refine zG 0 (fun B5 => ?_)
 refine zi (zd (zb (zl (zb (zb (za ?_))))))
 refine s_mv ?_
 refine s_mv ?_
 obtain ⟨v6, V6, F3⟩ := zc F2
 refine zL rI V6 rfl yE23 ?_
 refine zp yA3 ?_
 refine s_mv ?_
 refine s_ne ?_
 refine zf (zd ?_)
 refine zn F3 ?_ ?_ <;> intro C7 F4
 refine zb (za ?_)
 refine s_as ?_
 refine zf (zd (zh (zg (zj (zg (zu (zj (zg (zm ?_)))))))))
 cases F4
 exact zk [] [] Tryz.results57
 refine zi (zd (za ?_))
 refine s_mv ?_
 refine zI rfl ?_
 refine s_as ?_
 refine zf (z6 (zd (za ?_)))
 refine s_mv ?_
 refine zI (zak C4 B5 hn_g2) ?_
 refine s_as ?_
 refine zf ?_
 exact s_rn (fu, (w64 (g1 + 1)), (g2 + 1)) ⟨by first | omega | (dsimp only; omega), F4, by first | omega | (dsimp only; omega)⟩
 refine zB (zw (zr (zx (zd (zb (za ?_))))))
 refine s_mv ?_
 refine s_as ?_
 refine zf (zd (zh (zm ?_)))
 cases F2
 exact zk [] [] Tryz.results57
def zdY (fuel : Nat) : Prop := ∀ (x1 : (List Form)) (x2 : Int) (r : Int), zaI fuel x1 x2 = some r → AC Tryz.prog 58 [.t (.sl (x1.map Form.row)), .t (.sc (.int .i64 x2))] noOb (.t (.sc (.int .i64 r))) noOb
theorem m_laws_heldFormS_st (fu : Nat) (ih_m_laws_heldFormS : ∀ k, k ≤ fu → zdY k) : zdY (fu + 1) := by
 intro x1 x2 r F0
 rw [zaI] at F0
 refine AC_i [.t (.sc (.int .i64 r))] Tryz.func58 rfl Tryz.ntmps58 ?_
 intro C hC
 refine zb (za ?_)
 refine s_as ?_
 refine zf (zd (zb (zb (za ?_))))
 refine s_as ?_
 refine zf (zd (zl ?_))
 refine zap (β := Int × Int) [1, 4, 5, 6, 7, 8, 9, 10, 11, 12, 13, 14, 15, 16, 17, 18, 19, 20, 21, 22, 23, 24, 25, 26, 27, 28, 29, 30, 31, 32, 33, 34, 35, 36, 37, 38, 39, 40, 41, 42, 43, 44, 45, 46, 47, 48, 49, 50, 51, 52, 53, 54, 55, 56, 57] [] [] (fun a => [(1, .t (.sc (.int .i64 a.2.1))), (5, .t (.sc (.int .i64 a.2.2)))]) (fun a => []) (fun a => a.1 ≤ fu ∧ zbv a.1 x1 a.2.1 a.2.2 = some r ∧ 0 ≤ a.2.2) (fu, x2, 0) ⟨Nat.le_refl _, F0, by simp⟩ ?_
 clear F0
 rintro ⟨fu, g1, g2⟩ ⟨hl3, F1, hn_g2⟩
 dsimp only at hl3 F1 hn_g2 ⊢
 obtain _ | fu := fu
 · rw [zbv] at F1; cases F1
 rw [zbv] at F1
 refine zb (zb (za ?_))
 refine s_mv ?_
 refine s_mv ?_
 refine zE yU35 ?_
 refine s_lt ?_
 refine zf (zd ?_)
 refine zn F1 ?_ ?_ <;> intro C4 F2
 refine zG 0 (fun B5 => ?_)
 refine zi (zd (zb (zl (zb (zb (za ?_))))))
 refine s_mv ?_
 refine s_mv ?_
 obtain ⟨v6, V6, F3⟩ := zc F2
 refine zL Form.row V6 (Form.row_eq _) yE35 ?_
 refine s_fa zc8 ?_
 refine zp yA3 ?_
 refine s_mv ?_
 refine s_ne ?_
 refine zf (zd ?_)
 refine zn F3 ?_ ?_ <;> intro C7 F4
 refine zb (za ?_)
 refine s_as ?_
 refine zf (zd (zh (zg (zj (zg (zu (zj (zg (zm ?_)))))))))
 cases F4
 exact zk [] [] Tryz.results58
 refine zi (zd (zb (za ?_)))
 refine s_mv ?_
 refine zI rfl ?_
 refine s_as ?_
 refine zf (zd (zb (zb ?_)))
 refine zaf yMix (by kernel_rfl) ?_
 refine s_mv ?_
 refine s_mv ?_
 obtain ⟨v8, V8, F5⟩ := zc F4
 refine zL Form.row V8 (Form.row_eq _) yE35 ?_
 refine s_fa zcH ?_
 refine zp yA9 ?_
 refine s_mv ?_
 obtain ⟨v9, V9, F6⟩ := zc F5
 refine zz [] (zbI fu _ _ V9) ?_
 refine s_neS ?_
 refine zao (by kernel_rfl) ?_
 refine zd ?_
 refine zn F6 ?_ ?_ <;> intro C10 F7
 refine zb (za ?_)
 refine s_as ?_
 refine zf (zd (zh (zg (zj (zg (zu (zj (zg (zm ?_)))))))))
 cases F7
 exact zk [] [] Tryz.results58
 refine zi (zd (zb (za ?_)))
 refine s_mv ?_
 refine zI rfl ?_
 refine s_as ?_
 refine zf (zd (zb (zb (za ?_))))
 refine s_mv ?_
 refine s_mv ?_
 obtain ⟨v11, V11, F8⟩ := zc F7
 refine zL Form.row V11 (Form.row_eq _) yE35 ?_
 refine s_fa zep ?_
 refine zp yA3 ?_
 refine s_mv ?_
 refine s_ne ?_
 refine zf (zd ?_)
 refine zn F8 ?_ ?_ <;> intro C12 F9
 refine zb (za ?_)
 refine s_as ?_
 refine zf (zd (zh (zg (zj (zg (zu (zj (zg (zm ?_)))))))))
 cases F9
 exact zk [] [] Tryz.results58
 refine zi (zd (zb (za ?_)))
 refine s_mv ?_
 refine zI rfl ?_
 refine s_as ?_
 refine zf (zd (zb (za ?_)))
 refine s_mv ?_
 refine s_mv ?_
 obtain ⟨v13, V13, F10⟩ := zc F9
 refine zL Form.row V13 (Form.row_eq _) yE35 ?_
 refine s_fa zeu ?_
 refine zp yA23 ?_
 refine s_mv ?_
 obtain ⟨v14, V14, F11⟩ := zc F10
 refine zz [] (zfG fu _ _ _ V14) ?_
 refine s_as ?_
 refine zf (zd (zb (zb (za ?_))))
 refine s_mv ?_
 refine s_lt ?_
 refine zf (zd ?_)
 refine zn F11 ?_ ?_ <;> intro C15 F12
 refine zb (za ?_)
 refine s_as ?_
 refine zf (zd (zh (zg (zj (zg (zu (zj (zg (zm ?_)))))))))
 cases F12
 exact zk [] [] Tryz.results58
 refine zi (zd (zb (za ?_)))
 refine s_mv ?_
 refine s_mv ?_
 obtain ⟨v16, V16, F13⟩ := zc F12
 refine zL Form.row V16 (Form.row_eq _) yE35 ?_
 refine s_fa zZ ?_
 refine zp yA35 ?_
 refine s_mv ?_
 obtain ⟨v17, V17, F14⟩ := zc F13
 refine zz [] (ih_m_laws_heldFormS fu (by omega) _ _ _ V17) ?_
 refine s_as ?_
 refine zf (zd (zb (za ?_)))
 refine s_mv ?_
 refine s_lt ?_
 refine zf (zd ?_)
 refine zn F14 ?_ ?_ <;> intro C18 F15
 refine zb (za ?_)
 refine s_as ?_
 refine zf (zd (zh (zj (zg (zu (zj (zg (zm ?_))))))))
 cases F15
 exact zk [] [] Tryz.results58
 refine zi (z6 (zd (za ?_)))
 refine s_mv ?_
 refine zI (zak C4 B5 hn_g2) ?_
 refine s_as ?_
 refine zf ?_
 exact s_rn (fu, v17, (g2 + 1)) ⟨by first | omega | (dsimp only; omega), F15, by first | omega | (dsimp only; omega)⟩
 refine zB (zw (zr (zx (zd (zb (za ?_))))))
 refine s_mv ?_
 refine s_as ?_
 refine zf (zd (zh (zm ?_)))
 cases F2
 exact zk [] [] Tryz.results58
theorem m_laws_heldFormS_all (fuel : Nat) : zdY fuel := by
 induction fuel using Nat.strongRecOn with
 | _ N ih =>
   cases N with
   | zero => exact (by intro x1 x2 r h; rw [zaI] at h; cases h)
   | succ fu => exact m_laws_heldFormS_st fu (fun k hk => (ih k (by omega)))
theorem zfo (fuel : Nat) : zdY fuel := (m_laws_heldFormS_all fuel)
def m_laws_heldRuleS_AC (fuel : Nat) : Prop := ∀ (x1 : (List Rule)) (x2 : Int) (r : Int), zed fuel x1 x2 = some r → AC Tryz.prog 69 [.t (.sl (x1.map Rule.row)), .t (.sc (.int .i64 x2))] noOb (.t (.sc (.int .i64 r))) noOb
theorem m_laws_heldRuleS_ok (fuel : Nat) : m_laws_heldRuleS_AC fuel := by
 intro x1 x2 r F0
 unfold zed at F0
 refine AC_i [.t (.sc (.int .i64 r))] Tryz.func69 rfl Tryz.ntmps69 ?_
 intro C hC
 refine zb (za ?_)
 refine s_as ?_
 refine zf (zd (zb (zb (za ?_))))
 refine s_as ?_
 refine zf (zd (zl ?_))
 refine zap (β := Int × Int) [1, 4, 5, 6, 7, 8, 9, 10, 11, 12, 13, 14, 15, 16, 17, 18, 19, 20, 21, 22, 23, 24, 25, 26, 27, 28, 29, 30, 31, 32, 33, 34, 35, 36, 37, 38, 39, 40, 41, 42, 43, 44, 45, 46, 47, 48, 49, 50, 51, 52, 53, 54, 55, 56, 57, 58, 59, 60, 61, 62, 63, 64, 65, 66, 67, 68, 69, 70, 71, 72, 73, 74, 75, 76, 77, 78, 79, 80, 81, 82, 83, 84, 85, 86, 87, 88, 89, 90, 91, 92, 93, 94, 95, 96, 97, 98, 99, 100, 101, 102, 103, 104, 105, 106, 107, 108, 109, 110, 111, 112, 113] [] [] (fun a => [(1, .t (.sc (.int .i64 a.2.1))), (5, .t (.sc (.int .i64 a.2.2)))]) (fun a => []) (fun a => a.1 ≤ fuel ∧ zbu a.1 x1 a.2.1 a.2.2 = some r ∧ 0 ≤ a.2.2) (fuel, x2, 0) ⟨Nat.le_refl _, F0, by simp⟩ ?_
 clear F0
 rintro ⟨fu, g1, g2⟩ ⟨hl3, F1, hn_g2⟩
 dsimp only at hl3 F1 hn_g2 ⊢
 obtain _ | fu := fu
 · rw [zbu] at F1; cases F1
 rw [zbu] at F1
 refine zb (zb (za ?_))
 refine s_mv ?_
 refine s_mv ?_
 refine zE yU53 ?_
 refine s_lt ?_
 refine zf (zd ?_)
 refine zn F1 ?_ ?_ <;> intro C4 F2
 refine zG 0 (fun B5 => ?_)
 refine zi (zd (zb (zl (zb (zb (za ?_))))))
 refine s_mv ?_
 refine s_mv ?_
 obtain ⟨v6, V6, F3⟩ := zc F2
 refine zL Rule.row V6 (Rule.row_eq _) yE53 ?_
 refine s_fa zd3 ?_
 refine s_fa zc8 ?_
 refine zp yA3 ?_
 refine s_mv ?_
 refine s_ne ?_
 refine zf (zd ?_)
 refine zn F3 ?_ ?_ <;> intro C7 F4
 refine zb (za ?_)
 refine s_as ?_
 refine zf (zd (zh (zg (zj (zg (zu (zj (zg (zm ?_)))))))))
 cases F4
 exact zk [] [] Tryz.results69
 refine zi (zd (zb (za ?_)))
 refine s_mv ?_
 refine zI rfl ?_
 refine s_as ?_
 refine zf (zd (zb (zb ?_)))
 refine zaf yMix (by kernel_rfl) ?_
 refine s_mv ?_
 refine s_mv ?_
 obtain ⟨v8, V8, F5⟩ := zc F4
 refine zL Rule.row V8 (Rule.row_eq _) yE53 ?_
 refine s_fa zd3 ?_
 refine s_fa zcH ?_
 refine zp yA9 ?_
 refine s_mv ?_
 obtain ⟨v9, V9, F6⟩ := zc F5
 refine zz [] (zbI fu _ _ V9) ?_
 refine s_neS ?_
 refine zao (by kernel_rfl) ?_
 refine zd ?_
 refine zn F6 ?_ ?_ <;> intro C10 F7
 refine zb (za ?_)
 refine s_as ?_
 refine zf (zd (zh (zg (zj (zg (zu (zj (zg (zm ?_)))))))))
 cases F7
 exact zk [] [] Tryz.results69
 refine zi (zd (zb (za ?_)))
 refine s_mv ?_
 refine zI rfl ?_
 refine s_as ?_
 refine zf (zd (zb (zb (za ?_))))
 refine s_mv ?_
 refine s_mv ?_
 obtain ⟨v11, V11, F8⟩ := zc F7
 refine zL Rule.row V11 (Rule.row_eq _) yE53 ?_
 refine s_fa zd3 ?_
 refine s_fa zep ?_
 refine zp yA3 ?_
 refine s_mv ?_
 refine s_ne ?_
 refine zf (zd ?_)
 refine zn F8 ?_ ?_ <;> intro C12 F9
 refine zb (za ?_)
 refine s_as ?_
 refine zf (zd (zh (zg (zj (zg (zu (zj (zg (zm ?_)))))))))
 cases F9
 exact zk [] [] Tryz.results69
 refine zi (zd (zb (za ?_)))
 refine s_mv ?_
 refine zI rfl ?_
 refine s_as ?_
 refine zf (zd (zb (za ?_)))
 refine s_mv ?_
 refine s_mv ?_
 obtain ⟨v13, V13, F10⟩ := zc F9
 refine zL Rule.row V13 (Rule.row_eq _) yE53 ?_
 refine s_fa zd3 ?_
 refine s_fa zeu ?_
 refine zp yA23 ?_
 refine s_mv ?_
 obtain ⟨v14, V14, F11⟩ := zc F10
 refine zz [] (zfG fu _ _ _ V14) ?_
 refine s_as ?_
 refine zf (zd (zb (zb (za ?_))))
 refine s_mv ?_
 refine s_lt ?_
 refine zf (zd ?_)
 refine zn F11 ?_ ?_ <;> intro C15 F12
 refine zb (za ?_)
 refine s_as ?_
 refine zf (zd (zh (zg (zj (zg (zu (zj (zg (zm ?_)))))))))
 cases F12
 exact zk [] [] Tryz.results69
 refine zi (zd (zb (za ?_)))
 refine s_mv ?_
 refine s_mv ?_
 obtain ⟨v16, V16, F13⟩ := zc F12
 refine zL Rule.row V16 (Rule.row_eq _) yE53 ?_
 refine s_fa zd3 ?_
 refine s_fa zZ ?_
 refine zp yA35 ?_
 refine s_mv ?_
 obtain ⟨v17, V17, F14⟩ := zc F13
 refine zz [] (zfo fu _ _ _ V17) ?_
 refine s_as ?_
 refine zf (zd (zb (zb (za ?_))))
 refine s_mv ?_
 refine s_lt ?_
 refine zf (zd ?_)
 refine zn F14 ?_ ?_ <;> intro C18 F15
 refine zb (za ?_)
 refine s_as ?_
 refine zf (zd (zh (zg (zj (zg (zu (zj (zg (zm ?_)))))))))
 cases F15
 exact zk [] [] Tryz.results69
 refine zi (zd (zb (zb (za ?_))))
 refine s_mv ?_
 refine s_mv ?_
 obtain ⟨v19, V19, F16⟩ := zc F15
 refine zL Rule.row V19 (Rule.row_eq _) yE53 ?_
 refine s_fa zfr ?_
 refine s_fa zc8 ?_
 refine zp yA3 ?_
 refine s_mv ?_
 refine s_ne ?_
 refine zf (zd ?_)
 refine zn F16 ?_ ?_ <;> intro C20 F17
 refine zb (za ?_)
 refine s_as ?_
 refine zf (zd (zh (zg (zj (zg (zu (zj (zg (zm ?_)))))))))
 cases F17
 exact zk [] [] Tryz.results69
 refine zi (zd (zb (za ?_)))
 refine s_mv ?_
 refine zI rfl ?_
 refine s_as ?_
 refine zf (zd (zb (zb ?_)))
 refine zaf yMix (by kernel_rfl) ?_
 refine s_mv ?_
 refine s_mv ?_
 obtain ⟨v21, V21, F18⟩ := zc F17
 refine zL Rule.row V21 (Rule.row_eq _) yE53 ?_
 refine s_fa zfr ?_
 refine s_fa zcH ?_
 refine zp yA9 ?_
 refine s_mv ?_
 obtain ⟨v22, V22, F19⟩ := zc F18
 refine zz [] (zbI fu _ _ V22) ?_
 refine s_neS ?_
 refine zao (by kernel_rfl) ?_
 refine zd ?_
 refine zn F19 ?_ ?_ <;> intro C23 F20
 refine zb (za ?_)
 refine s_as ?_
 refine zf (zd (zh (zg (zj (zg (zu (zj (zg (zm ?_)))))))))
 cases F20
 exact zk [] [] Tryz.results69
 refine zi (zd (zb (za ?_)))
 refine s_mv ?_
 refine zI rfl ?_
 refine s_as ?_
 refine zf (zd (zb (zb (za ?_))))
 refine s_mv ?_
 refine s_mv ?_
 obtain ⟨v24, V24, F21⟩ := zc F20
 refine zL Rule.row V24 (Rule.row_eq _) yE53 ?_
 refine s_fa zfr ?_
 refine s_fa zep ?_
 refine zp yA3 ?_
 refine s_mv ?_
 refine s_ne ?_
 refine zf (zd ?_)
 refine zn F21 ?_ ?_ <;> intro C25 F22
 refine zb (za ?_)
 refine s_as ?_
 refine zf (zd (zh (zg (zj (zg (zu (zj (zg (zm ?_)))))))))
 cases F22
 exact zk [] [] Tryz.results69
 refine zi (zd (zb (za ?_)))
 refine s_mv ?_
 refine zI rfl ?_
 refine s_as ?_
 refine zf (zd (zb (za ?_)))
 refine s_mv ?_
 refine s_mv ?_
 obtain ⟨v26, V26, F23⟩ := zc F22
 refine zL Rule.row V26 (Rule.row_eq _) yE53 ?_
 refine s_fa zfr ?_
 refine s_fa zeu ?_
 refine zp yA23 ?_
 refine s_mv ?_
 obtain ⟨v27, V27, F24⟩ := zc F23
 refine zz [] (zfG fu _ _ _ V27) ?_
 refine s_as ?_
 refine zf (zd (zb (zb (za ?_))))
 refine s_mv ?_
 refine s_lt ?_
 refine zf (zd ?_)
 refine zn F24 ?_ ?_ <;> intro C28 F25
 refine zb (za ?_)
 refine s_as ?_
 refine zf (zd (zh (zg (zj (zg (zu (zj (zg (zm ?_)))))))))
 cases F25
 exact zk [] [] Tryz.results69
 refine zi (zd (zb (za ?_)))
 refine s_mv ?_
 refine s_mv ?_
 obtain ⟨v29, V29, F26⟩ := zc F25
 refine zL Rule.row V29 (Rule.row_eq _) yE53 ?_
 refine s_fa zfr ?_
 refine s_fa zZ ?_
 refine zp yA35 ?_
 refine s_mv ?_
 obtain ⟨v30, V30, F27⟩ := zc F26
 refine zz [] (zfo fu _ _ _ V30) ?_
 refine s_as ?_
 refine zf (zd (zb (za ?_)))
 refine s_mv ?_
 refine s_lt ?_
 refine zf (zd ?_)
 refine zn F27 ?_ ?_ <;> intro C31 F28
 refine zb (za ?_)
 refine s_as ?_
 refine zf (zd (zh (zj (zg (zu (zj (zg (zm ?_))))))))
 cases F28
 exact zk [] [] Tryz.results69
 refine zi (z6 (zd (za ?_)))
 refine s_mv ?_
 refine zI (zak C4 B5 hn_g2) ?_
 refine s_as ?_
 refine zf ?_
 exact s_rn (fu, v30, (g2 + 1)) ⟨by first | omega | (dsimp only; omega), F28, by first | omega | (dsimp only; omega)⟩
 refine zB (zw (zr (zx (zd (zb (za ?_))))))
 refine s_mv ?_
 refine s_as ?_
 refine zf (zd (zh (zm ?_)))
 cases F2
 exact zk [] [] Tryz.results69
end Go.Abs
