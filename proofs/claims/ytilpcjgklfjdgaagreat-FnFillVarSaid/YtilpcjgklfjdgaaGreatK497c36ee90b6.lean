/- A part of the proof: what the functions that the law calls answer, as pure values. -/
import Derived.Test.YtilpcjgklfjdgaaGreatKb7cea3fdd97b
import Derived.Test.YtilpcjgklfjdgaaGreatKc2e0a31646d6
import Derived.Test.YtilpcjgklfjdgaaGreatKee9727030f10
import Derived.Test.YtilpcjgklfjdgaaGreatKfdc0d9ae01a4
import Derived.Test.YtilpcjgklfjdgaaGreatK1e8eb432d4fb
set_option linter.unusedSimpArgs false
set_option linter.unusedVariables false
set_option maxRecDepth 100000
set_option maxHeartbeats 4000000
namespace Go.Abs
open Go.Proofs
def zcD (fuel : Nat) : Prop := ∀ (x1 : Form) (o1 : Bool) (o2 : Hit) (r : Bool), zaM fuel x1 o1 o2 = some r → AC Tryz.prog 50 [.ag [.t (.sc (.int .i64 x1.kind)), .t (.sc (.str x1.name)), .t (.sc (.int .i64 x1.n)), .t (.sl (x1.scopes.map rI)), .t (.sl (x1.kids.map Form.row))], .fn 90 [.rf 9000 0, .rf 9001 0]] (objs [(9000, .box [.t (.sc (.bool o1))]), (9001, .box [.t (.sc (.int .i64 o2.name.kind)), .t (.sc (.str o2.name.name)), .t (.sc (.int .i64 o2.name.n)), .t (.sl (o2.name.scopes.map rI)), .t (.sl (o2.name.kids.map Form.row)), .t (.sc (.int .i64 o2.depth)), .t (.sc (.int .i64 o2.one.kind)), .t (.sc (.str o2.one.name)), .t (.sc (.int .i64 o2.one.n)), .t (.sl (o2.one.scopes.map rI)), .t (.sl (o2.one.kids.map Form.row)), .t (.sl (o2.many.map Hit.row))])]) (.tp []) (objs [(9000, .box [.t (.sc (.bool r))]), (9001, .box [.t (.sc (.int .i64 o2.name.kind)), .t (.sc (.str o2.name.name)), .t (.sc (.int .i64 o2.name.n)), .t (.sl (o2.name.scopes.map rI)), .t (.sl (o2.name.kids.map Form.row)), .t (.sc (.int .i64 o2.depth)), .t (.sc (.int .i64 o2.one.kind)), .t (.sc (.str o2.one.name)), .t (.sc (.int .i64 o2.one.n)), .t (.sl (o2.one.scopes.map rI)), .t (.sl (o2.one.kids.map Form.row)), .t (.sl (o2.many.map Hit.row))])])
theorem zgX (fu : Nat) (ih_m_impl_eachForm_fill_2 : ∀ k, k ≤ fu → zcD k) : zcD (fu + 1) := by
 intro x1 o1 o2 r F0
 rw [zaM] at F0
 refine AC_i [] Tryz.func50 rfl Tryz.ntmps50 ?_
 intro C hC
 refine zb (za ?_)
 refine zbh ?_
 refine zf (zd (zb (za ?_)))
 refine s_mv ?_
 refine zK yA32 yS32 ?_
 obtain ⟨v1, V1, F1⟩ := zc F0
 refine zZ [(9000, 9000), (9001, 9001)] [] _ _ (m_impl_fill_2_ok fu _ _ _ _ V1) ?_
 refine zf (zd (zb (za ?_)))
 refine s_fa zH ?_
 refine zu yA24 ?_
 refine zE yU24 ?_
 refine s_mv ?_
 refine zf (zd (zk ?_))
 refine za1 (β := Int × Bool) [5, 12, 13, 14, 15, 16, 17, 18, 19] [9000] [5] (fun a => [(12, .t (.sc (.int .i64 a.2.1)))]) (fun a => [(9000, .box [.t (.sc (.bool a.2.2))])]) (fun a => a.1 ≤ fu ∧ zaw a.1 x1 o2 a.2.1 a.2.2 = some r ∧ 0 ≤ a.2.1) (fu, 0, v1) ⟨Nat.le_refl _, F1, by simp⟩ ?_
 clear F1
 rintro ⟨fu, g2, g3⟩ ⟨hl4, F2, hn_g2⟩
 dsimp only at hl4 F2 hn_g2 ⊢
 obtain _ | fu := fu
 · rw [zaw] at F2; cases F2
 rw [zaw] at F2
 refine zb (za ?_)
 refine s_lt ?_
 refine zf (zd (zb ?_))
 refine zm F2 ?_ ?_ <;> intro C5 F3
 refine zV 10 (fun B6 => ?_)
 refine zi (zd (zb (zk (zb (za ?_)))))
 obtain ⟨v7, V7, F4⟩ := zc F3
 refine zN Form.row V7 (Form.row_eq _) yE24 ?_
 refine zaq yA32 yS32 ?_
 refine z6 yZ32 ?_
 refine zac yS32 ?_
 refine zf (zd (za ?_))
 refine zK yA32 yS32 ?_
 refine s_mv ?_
 obtain ⟨v8, V8, F5⟩ := zc F4
 refine zZ [(9000, 9000), (9001, 9001)] [] _ _ (ih_m_impl_eachForm_fill_2 fu (by omega) _ _ _ _ V8) ?_
 refine zf (z5 (zd (za ?_)))
 refine zO (zaA C5 B6 hn_g2) ?_
 refine s_mv ?_
 refine zf ?_
 exact s_rn (fu, (g2 + 1), v8) ⟨by first | omega | (dsimp only; omega), F5, by first | omega | (dsimp only; omega)⟩
 refine zz (zq (zp (zr (zhc ?_))))
 cases F3
 exact zl _ [] Tryz.results50
theorem zgM (fuel : Nat) : zcD fuel := by
 induction fuel using Nat.strongRecOn with
 | _ N ih =>
   cases N with
   | zero => exact (by intro x1 o1 o2 r h; rw [zaM] at h; cases h)
   | succ fu => exact zgX fu (fun k hk => (ih k (by omega)))
theorem zgY (fuel : Nat) : zcD fuel := (zgM fuel)
def m_slices_Clone_Hit_AC (fuel : Nat) : Prop := ∀ (x1 : (List Hit)) (r : (List Hit)), zey fuel x1 = some r → AC Tryz.prog 91 [.t (.sl (x1.map Hit.row))] (objs []) (.ar 9200) (objs [(9200, .arr (r.map Hit.row) 48 true)])
theorem m_slices_Clone_Hit_ok (fuel : Nat) : m_slices_Clone_Hit_AC fuel := by
 intro x1 r F0
 unfold zey at F0
 refine AC_i [.ar 9200] Tryz.func91 rfl Tryz.ntmps91 ?_
 intro C hC
 refine awp_nil 0 (fun hz => ?_) ?_
 replace hz := List.map_eq_nil_iff.mp hz; subst hz; obtain ⟨_, F1⟩ := zah F0
 refine zb (za ?_)
 refine s_as ?_
 refine zf (zd (zb (zb (za ?_))))
 refine s_mv ?_
 refine s_nil yU42 ?_
 refine zf (zd (zM rfl ?_))
 refine zge 0 ?_
 refine zge 3 ?_
 refine zb (za ?_)
 refine s_as ?_
 refine zf (zd ?_)
 refine awp_own 2 9200 48 yI48.choose_spec ?_
 refine zh (zg (zn ?_))
 cases F1
 exact zl _ [] Tryz.results91
 refine zb (za ?_)
 refine s_as ?_
 refine zf (zd (zb (zb (za ?_))))
 refine s_mv ?_
 refine s_nil yU42 ?_
 refine zf (zd (zaI rfl ?_))
 refine zge 0 ?_
 refine zge 3 ?_
 refine zi (zd (zb (za ?_)))
 refine s_bs Hit.row ([] : List Hit) yP42 yR48 ?_
 refine s_mv ?_
 obtain ⟨hk1, F1⟩ := zah F0
 refine zdT Hit.row (fun y => Hit.row_len y) hk1 yP42 ?_
 refine s_as ?_
 refine zf (zd ?_)
 refine zco 2 7 9200 (by conv => lhs; whnf) (by conv => lhs; whnf) rfl ?_
 refine zh (zn ?_)
 cases F1
 exact zl _ [] Tryz.results91
def ze7 (fuel : Nat) : Prop := ∀ (x1 : Form) (x2 : (List Hit)) (r : (Form × Bool)), zdI fuel x1 x2 = some r → AC Tryz.prog 42 [.ag [.t (.sc (.int .i64 x1.kind)), .t (.sc (.str x1.name)), .t (.sc (.int .i64 x1.n)), .t (.sl (x1.scopes.map rI)), .t (.sl (x1.kids.map Form.row))], .t (.sl (x2.map Hit.row))] noOb (.tp [.ag [.t (.sc (.int .i64 r.1.kind)), .t (.sc (.str r.1.name)), .t (.sc (.int .i64 r.1.n)), .t (.sl (r.1.scopes.map rI)), .t (.sl (r.1.kids.map Form.row))], .t (.sc (.bool r.2))]) noOb
def zfp (fuel : Nat) : Prop := ∀ (x1 : Form) (x2 : (List Hit)) (o1 : Int) (o2 : Form) (r : (Bool × Int × Form)), zdB fuel x1 x2 o1 o2 = some r → AC Tryz.prog 89 [.ag [.t (.sc (.int .i64 x1.kind)), .t (.sc (.str x1.name)), .t (.sc (.int .i64 x1.n)), .t (.sl (x1.scopes.map rI)), .t (.sl (x1.kids.map Form.row))], .t (.sl (x2.map Hit.row)), .rf 9000 0, .rf 9001 0] (objs [(9000, .box [.t (.sc (.int .i64 o1))]), (9001, .box [.t (.sc (.int .i64 o2.kind)), .t (.sc (.str o2.name)), .t (.sc (.int .i64 o2.n)), .t (.sl (o2.scopes.map rI)), .ar 9444]), (9444, .arr (o2.kids.map Form.row) 32 true)]) (.t (.sc (.bool r.1))) (objs [(9000, .box [.t (.sc (.int .i64 r.2.1))]), (9001, .box [.t (.sc (.int .i64 r.2.2.kind)), .t (.sc (.str r.2.2.name)), .t (.sc (.int .i64 r.2.2.n)), .t (.sl (r.2.2.scopes.map rI)), .ar 10444]), (9444, .dead), (10444, .arr (r.2.2.kids.map Form.row) 32 true)])
theorem m_impl_fill_st (fu : Nat) (ih_m_impl_fill : ∀ k, k ≤ fu → ze7 k) (ih_m_impl_fill_1 : ∀ k, k ≤ fu → zfp k) : ze7 (fu + 1) := by
 intro x1 x2 r F0
 rw [zdI] at F0
 refine AC_i [.ag [.t (.sc (.int .i64 r.1.kind)), .t (.sc (.str r.1.name)), .t (.sc (.int .i64 r.1.n)), .t (.sl (r.1.scopes.map rI)), .t (.sl (r.1.kids.map Form.row))], .t (.sc (.bool r.2))] Tryz.func42 rfl Tryz.ntmps42 ?_
 intro C hC
 refine zb (za ?_)
 refine zbh ?_
 refine z6 yZ32 ?_
 refine s_as ?_
 refine zf (zd (zb (zb (za ?_))))
 refine s_fa zc2 ?_
 refine zu yA3 ?_
 refine s_eq ?_
 refine zf (zd ?_)
 refine zm F0 ?_ ?_ <;> intro C1 F1
 refine zb (zb (za ?_))
 refine s_mv ?_
 refine zK yA32 yS32 ?_
 obtain ⟨v2, V2, F2⟩ := zc F1
 refine zv [] (m_impl_hitAt_ok fu _ _ _ V2) ?_
 refine s_as ?_
 refine zf (zd (zb (za ?_)))
 refine s_mv ?_
 refine s_ge ?_
 refine zf (zd ?_)
 refine zm F2 ?_ ?_ <;> intro C3 F3
 refine zb (za ?_)
 refine s_mv ?_
 refine s_mv ?_
 obtain ⟨v4, V4, F4⟩ := zc F3
 refine zN Hit.row V4 (Hit.row_eq _) yE42 ?_
 refine s_fa yF48_2 ?_
 refine zaq yA32 yS32 ?_
 obtain ⟨v5, V5, F5⟩ := zc F4
 refine zv [] (zfS fu _ _ V5) ?_
 refine zac yS32 ?_
 refine s_as ?_
 refine zf (zd (zh (zg (zg (zn ?_)))))
 cases F5
 exact zI [] [] (by rw [Tryz.results42]; exact (z8 (by conv => lhs; whnf) (by conv => lhs; whnf) yA32 yS32 rfl (zae (by conv => lhs; whnf) zR)))
 refine zi (zd (zb (za ?_)))
 refine zK yA32 yS32 ?_
 obtain ⟨v6, V6, F4⟩ := zc F3
 refine zv [] (zfS fu _ _ V6) ?_
 refine zac yS32 ?_
 refine s_as ?_
 refine zf (zd (zh (zg (zn ?_))))
 cases F4
 exact zI [] [] (by rw [Tryz.results42]; exact (z8 (by conv => lhs; whnf) (by conv => lhs; whnf) yA32 yS32 rfl (zae (by conv => lhs; whnf) zR)))
 refine zi (zd (zb (za ?_)))
 refine s_fa zc2 ?_
 refine zu yA3 ?_
 refine s_fa zf9 ?_
 refine zu yA3 ?_
 refine zeC yZ32 yL32 ?_
 refine z6 yZ32 ?_
 refine z6 yZ3 ?_
 refine zac yS32 ?_
 refine zac yS3 ?_
 refine zf (zd ?_)
 refine zgW 7 8144 32 [.t (.sc (.int .i64 x1.kind)), .t (.sc (.str (⟨#[]⟩ : ByteArray))), .t (.sc (.int .i64 x1.n)), .nl, .ar 8144] yI32.choose_spec ?_
 refine zb (za ?_)
 refine s_fn ?_
 refine s_as ?_
 refine zf (zd (zb (zb (za ?_))))
 refine s_fa zH ?_
 refine zu yA24 ?_
 refine zE yU24 ?_
 refine s_mv ?_
 refine zf (zd (zk ?_))
 refine awp_mvB 7 8144 5020 [.t (.sc (.int .i64 x1.kind)), .t (.sc (.str (⟨#[]⟩ : ByteArray))), .t (.sc (.int .i64 x1.n)), .nl, .ar 5020] ?_
 refine awp_nlB 7 3 [.t (.sc (.int .i64 x1.kind)), .t (.sc (.str (⟨#[]⟩ : ByteArray))), .t (.sc (.int .i64 x1.n)), .t (.sl (([] : List Int).map rI)), .ar 5020] (by conv => lhs; whnf) rfl rfl ?_
 refine zap [5, 10, 11, 12, 13, 14, 15, 16, 17, 18, 20, 46, 47, 48, 49, 50, 51, 52, 53, 54, 55, 56, 57, 58, 59, 60, 61, 62, 63, 64, 65, 66, 67, 68, 69, 70, 71, 72, 73, 74, 75, 76, 77, 78, 79, 80, 81, 82, 83, 84, 85, 86, 87, 88, 89, 90, 91, 92, 93, 94, 95, 96, 97, 98, 99, 100, 101, 102, 103, 104, 105, 106, 107, 108, 109, 110, 111, 112, 113, 114, 115, 116, 117, 118, 119, 120, 121, 122, 123, 124, 125, 126, 127, 128, 129, 130, 131, 132, 133, 134, 135, 136, 137, 138, 139, 140, 141, 142] [7, 8, 5020] [11, 75, 5080, 5140, 32072] [5020] (fun a : Nat × Int × Int × ByteArray × Int × (List Int) × (List Form) × Int => a.1) (fun a : Nat × Int × Int × ByteArray × Int × (List Int) × (List Form) × Int => [(46, .t (.sc (.int .i64 a.2.1)))]) (fun a : Nat × Int × Int × ByteArray × Int × (List Int) × (List Form) × Int => [(7, .box [.t (.sc (.int .i64 a.2.2.1)), .t (.sc (.str a.2.2.2.1)), .t (.sc (.int .i64 a.2.2.2.2.1)), .t (.sl (a.2.2.2.2.2.1.map rI)), .ar 5020]), (8, .box [.t (.sc (.int .i64 a.2.2.2.2.2.2.2))]), (5020, .arr (a.2.2.2.2.2.2.1.map Form.row) 32 true)]) (fun a : Nat × Int × Int × ByteArray × Int × (List Int) × (List Form) × Int => a.1 ≤ fu ∧ zbG a.1 x1 x2 a.2.1 a.2.2.1 a.2.2.2.1 a.2.2.2.2.1 a.2.2.2.2.2.1 a.2.2.2.2.2.2.1 a.2.2.2.2.2.2.2 = some r) (fu, 0, x1.kind, (⟨#[]⟩ : ByteArray), x1.n, ([] : List Int), ([] : List Form), 0) ⟨Nat.le_refl _, F1⟩ (by rfl) (by rfl) (fun _ => rfl) (zG (by conv => lhs; whnf) (by rfl) za2) (zT (by conv => lhs; whnf) (by rfl) (zT (by conv => lhs; whnf) (by rfl) (zT (by conv => lhs; whnf) (by rfl) zaS))) (zbV hC rfl) (by repeat (first | exact zad rfl | refine zan rfl ?_ | refine zW rfl ?_)) (by repeat (first | exact zaD | exact zai rfl | refine zao rfl ?_ | refine zX rfl ?_)) ?_
 clear F1
 rintro ⟨fu, g7, g8, g9, g10, g11, g12, g13⟩ ⟨hl14, F2⟩
 dsimp only at hl14 F2 ⊢
 obtain _ | fu := fu
 · rw [zbG] at F2; cases F2
 rw [zbG] at F2
 refine zb (za ?_)
 refine s_lt ?_
 refine zf (zd (zb ?_))
 refine zm F2 ?_ ?_ <;> intro C15 F3
 refine zV 44 (fun B16 => ?_)
 refine zi (zd (zb (zk (zb (za ?_)))))
 refine s_mv ?_
 obtain ⟨v17, V17, F4⟩ := zc F3
 refine zN Form.row V17 (Form.row_eq _) yE24 ?_
 refine zaq yA32 yS32 ?_
 refine z6 yZ32 ?_
 refine s_as ?_
 refine zac yS32 ?_
 refine zf (zd (zb (zb (za ?_))))
 refine zK yA32 yS32 ?_
 obtain ⟨v18, V18, F5⟩ := zc F4
 refine zv [] (zcK fu _ _ _ V18) ?_
 refine zf (zd ?_)
 refine zm F5 ?_ ?_ <;> intro C19 F6
 refine zz (zq (zr (zd (za ?_))))
 refine zO (zaA C15 B16 (zfs V17).1) ?_
 refine s_mv ?_
 refine zf ?_
 exact s_rn (fu, (g7 + 1), g8, g9, g10, g11, g12, g13) ⟨by first | omega | (dsimp only; omega), F6⟩
 refine zi (zd (zb ?_))
 refine zbt (α := Nat × Bool) [53, 54, 55, 56, 57, 58, 59, 60, 61, 62, 63, 64, 65, 66, 67, 68] [] [] (fun a => [(68, .t (.sc (.bool a.2)))]) (fun a => []) (fun a => a.1 ≤ fu ∧ zbH a.1 x1 x2 g7 g8 g9 g10 g11 g12 g13 v17 a.2 = some r) ?_ ?_
 refine za ?_
 refine s_mv ?_
 refine zO (zaA C15 B16 (zfs V17).1) ?_
 refine s_fa zH ?_
 refine zu yA24 ?_
 refine zE yU24 ?_
 refine s_eq ?_
 refine s_mv ?_
 refine zo _ 59 F6 ?_ ?_ <;> intro C20 F7
 iterate 8 refine r_no rfl ?_
 refine zA ?_
 refine zf ?_
 exact s_jn (fu, true) ⟨by first | omega | (dsimp only; omega), F7⟩
 refine s_fa zH ?_
 refine zu yA24 ?_
 refine s_mv ?_
 refine zO (zaA C15 B16 (zfs V17).1) ?_
 obtain ⟨v21, V21, F8⟩ := zc F7
 refine zN Form.row V21 (Form.row_eq _) yE24 ?_
 refine zaq yA32 yS32 ?_
 obtain ⟨v22, V22, F9⟩ := zc F8
 refine zv [] (zcK fu _ _ _ V22) ?_
 refine zby ?_
 refine zB ?_
 refine zf ?_
 exact s_jn (fu, (!v22)) ⟨by first | omega | (dsimp only; omega), F9⟩
 clear F6
 rintro ⟨fu, g23⟩ ⟨hl24, F7⟩
 dsimp only at hl24 F7 ⊢
 obtain _ | fu := fu
 · rw [zbH] at F7; cases F7
 rw [zbH] at F7
 refine zm F7 ?_ ?_ <;> intro C25 F8
 refine zb (zb (za ?_))
 refine s_mv ?_
 refine zK yA32 yS32 ?_
 refine s_mv ?_
 obtain ⟨v26, V26, F9⟩ := zc F8
 refine zZ [(9000, 8), (9001, 7), (9444, 5020), (10444, 32072)] [] _ _ (ih_m_impl_fill_1 fu (by omega) _ _ _ _ _ V26) ?_
 refine zby ?_
 refine zf (zd ?_)
 refine zm F9 ?_ ?_ <;> intro C27 F10
 refine zb (za ?_)
 refine zeC yZ32 yL32 ?_
 refine zac yS32 ?_
 refine s_as ?_
 refine zf (zd (zh (zg (zg (zj (zg (zx (zj (zg (zn ?_))))))))))
 cases F10
 exact zI [] [] (by rw [Tryz.results42]; exact (z8 (by conv => lhs; whnf) (by conv => lhs; whnf) yA32 yS32 rfl (zae (by conv => lhs; whnf) zR)))
 refine zi (zd (zz (zq (zr (zd (za ?_))))))
 refine zO (zaA C15 B16 (zfs V17).1) ?_
 refine s_mv ?_
 refine zf ?_
 exact s_rn (fu, (g7 + 1), v26.2.2.kind, v26.2.2.name, v26.2.2.n, v26.2.2.scopes, v26.2.2.kids, v26.2.1) ⟨by first | omega | (dsimp only; omega), F10⟩ [(5020, 32072)]
 refine zi (zd (zb (za ?_)))
 refine s_bs rI ([] : List Int) yP27 yR3 ?_
 refine s_as ?_
 refine s_as ?_
 refine zf (zd ?_)
 refine zbt (α := Nat × Int × (List Int)) [5, 12, 13, 14, 15, 16, 76, 77, 78, 79, 80, 81, 82, 83, 84, 85, 86, 87, 88, 89, 90, 91, 92, 93, 94, 95, 96, 97, 98, 99, 100, 101, 102, 103, 104, 105, 106, 107, 108, 109, 110] [75, 5080] [] (fun a => [(12, .ar 5080), (13, .t (.sc (.int .i64 a.2.1)))]) (fun a => [(75, .dead), (5080, .arr (a.2.2.map rI) 3 true)]) (fun a => a.1 ≤ fu ∧ zet a.1 x1 x2 g7 g8 g9 g10 g11 g12 g13 v17 a.2.1 a.2.2 = some r) ?_ ?_
 refine zb (za ?_)
 refine s_mv ?_
 refine zE yU42 ?_
 refine s_mv ?_
 refine zf (zd (zk ?_))
 refine zco 12 75 5080 (by conv => lhs; whnf) (by conv => lhs; whnf) rfl ?_
 refine zap [5, 12, 13, 14, 15, 16, 78, 79, 80, 81, 82, 83, 84, 85, 86, 87, 88, 89, 90, 91, 92, 93, 94, 95, 96, 97, 98, 99, 100, 101, 102, 103, 104, 105, 106, 107, 108, 109, 110] [5080] [15, 16, 95, 96] [5080] (fun a : Nat × Int × (List Int) × Int => a.1) (fun a : Nat × Int × (List Int) × Int => [(12, .ar 5080), (13, .t (.sc (.int .i64 a.2.2.2))), (78, .t (.sc (.int .i64 a.2.1)))]) (fun a : Nat × Int × (List Int) × Int => [(5080, .arr (a.2.2.1.map rI) 3 true)]) (fun a : Nat × Int × (List Int) × Int => a.1 ≤ fu ∧ zbY a.1 x1 x2 g7 g8 g9 g10 g11 g12 g13 v17 a.2.1 a.2.2.1 a.2.2.2 = some r ∧ 0 ≤ a.2.1) (fu, 0, ([] : List Int), (-1)) ⟨Nat.le_refl _, F8, by simp⟩ (by rfl) (by rfl) (fun _ => rfl) (zG (by conv => lhs; whnf) (by rfl) (zG (by conv => lhs; whnf) (by rfl) (zG (by conv => lhs; whnf) (by rfl) za2))) (zT (by conv => lhs; whnf) (by rfl) zaS) (zbV hC rfl) (by repeat (first | exact zad rfl | refine zan rfl ?_ | refine zW rfl ?_)) (by repeat (first | exact zaD | exact zai rfl | refine zao rfl ?_ | refine zX rfl ?_)) ?_
 clear F8
 rintro ⟨fu, g28, g29, g30⟩ ⟨hl31, F9, hn_g28⟩
 dsimp only at hl31 F9 hn_g28 ⊢
 obtain _ | fu := fu
 · rw [zbY] at F9; cases F9
 rw [zbY] at F9
 refine zb (za ?_)
 refine s_lt ?_
 refine zf (zd (zb ?_))
 refine zm F9 ?_ ?_ <;> intro C32 F10
 refine zV 1 (fun B33 => ?_)
 refine zi (zd (zb (zk (zb (za ?_)))))
 refine s_mv ?_
 obtain ⟨v34, V34, F11⟩ := zc F10
 refine zN Hit.row V34 (Hit.row_eq _) yE42 ?_
 refine zaq yA48 yS48 ?_
 refine z6 yZ48 ?_
 refine s_as ?_
 refine zac yS48 ?_
 refine zf (zd (zb (za ?_)))
 refine z6 yZ4 ?_
 refine zac yS4 ?_
 refine zf (zd (zb (za ?_)))
 refine zK yA32 yS32 ?_
 refine s_fn ?_
 obtain ⟨v35, V35, F12⟩ := zc F11
 refine zZ [(9000, 16), (9001, 15)] [] _ _ (zgY fu _ _ _ _ V35) ?_
 refine zf (zd (zb ?_))
 refine zbt (α := Nat × Bool) [86, 87, 88, 89, 90, 91, 92] [] [] (fun a => [(92, .t (.sc (.bool a.2)))]) (fun a => []) (fun a => a.1 ≤ fu ∧ zda a.1 x1 x2 g7 g8 g9 g10 g11 g12 g13 v17 g28 g29 g30 v34 a.2 = some r) ?_ ?_
 refine za ?_
 refine zu yA4 ?_
 refine zby ?_
 refine s_mv ?_
 refine zo _ 88 F12 ?_ ?_ <;> intro C36 F13
 iterate 3 refine r_no rfl ?_
 refine zA ?_
 refine zf ?_
 exact s_jn (fu, true) ⟨by first | omega | (dsimp only; omega), F13⟩
 refine s_fa zfD ?_
 refine zu yA3 ?_
 refine s_eq ?_
 refine zB ?_
 refine zf ?_
 exact s_jn (fu, (decide (v34.depth = 0))) ⟨by first | omega | (dsimp only; omega), F13⟩
 clear F12
 rintro ⟨fu, g37⟩ ⟨hl38, F13⟩
 dsimp only at hl38 F13 ⊢
 obtain _ | fu := fu
 · rw [zda] at F13; cases F13
 rw [zda] at F13
 refine zm F13 ?_ ?_ <;> intro C39 F14
 refine zz (zq (zr (zd (za ?_))))
 refine zO (zaA C32 B33 hn_g28) ?_
 refine s_mv ?_
 refine zf ?_
 exact s_rn (fu, (g28 + 1), g29, g30) ⟨by first | omega | (dsimp only; omega), F14, by first | omega | (dsimp only; omega)⟩
 refine zi (zd (zb (za ?_)))
 refine s_mv ?_
 refine s_mv ?_
 refine s_bs rI [g28] yP27 yR3 ?_
 obtain ⟨hk40, F15⟩ := zah F14
 refine zdT rI (fun _ => rfl) hk40 yP27 ?_
 refine s_as ?_
 refine zf (zd (zb ?_))
 refine zbt (α := Nat × Bool) [97, 98, 99, 100, 101, 102, 103, 104, 105] [] [] (fun a => [(105, .t (.sc (.bool a.2)))]) (fun a => []) (fun a => a.1 ≤ fu ∧ zc9 a.1 x1 x2 g7 g8 g9 g10 g11 g12 g13 v17 g28 g29 v34 a.2 = some r) ?_ ?_
 refine za ?_
 refine s_mv ?_
 refine s_ge ?_
 refine s_mv ?_
 refine zo _ 99 F15 ?_ ?_ <;> intro C41 F16
 refine s_mv ?_
 refine s_fa zfx ?_
 refine zu yA42 ?_
 refine zE yU42 ?_
 refine s_ne ?_
 refine zA ?_
 refine zf ?_
 exact s_jn (fu, (decide (g30 ≠ (v34.many.length : Int)))) ⟨by first | omega | (dsimp only; omega), F16⟩
 iterate 5 refine r_no rfl ?_
 refine zB ?_
 refine zf ?_
 exact s_jn (fu, false) ⟨by first | omega | (dsimp only; omega), F16⟩
 clear F15
 rintro ⟨fu, g42⟩ ⟨hl43, F16⟩
 dsimp only at hl43 F16 ⊢
 obtain _ | fu := fu
 · rw [zc9] at F16; cases F16
 rw [zc9] at F16
 refine zm F16 ?_ ?_ <;> intro C44 F17
 refine zb (za ?_)
 refine zeC yZ32 yL32 ?_
 refine zac yS32 ?_
 refine s_as ?_
 refine zf (zd (zh (zg (zj (zg (zx (zj (zeW (zj (zg (zx (zj (zg (zn ?_))))))))))))))
 cases F17
 exact zI [] [] (by rw [Tryz.results42]; exact (z8 (by conv => lhs; whnf) (by conv => lhs; whnf) yA32 yS32 rfl (zae (by conv => lhs; whnf) zR)))
 refine zi (zd (za ?_))
 refine s_fa zfx ?_
 refine zu yA42 ?_
 refine zE yU42 ?_
 refine s_as ?_
 refine zf (z5 (zd (za ?_)))
 refine zO (zaA C32 B33 hn_g28) ?_
 refine s_mv ?_
 refine zf ?_
 exact s_rn (fu, (g28 + 1), (g29 ++ [g28]), (v34.many.length : Int)) ⟨by first | omega | (dsimp only; omega), F17, by first | omega | (dsimp only; omega)⟩ [(5080, 96)]
 refine zz (zq (zp (zr ?_)))
 exact s_jn (fu, g30, g29) ⟨by first | omega | (dsimp only; omega), F10⟩
 clear F8
 rintro ⟨fu, g45, g46⟩ ⟨hl47, F9⟩
 dsimp only at hl47 F9 ⊢
 obtain _ | fu := fu
 · rw [zet] at F9; cases F9
 rw [zet] at F9
 refine zb (za ?_)
 refine s_as ?_
 refine zf (zd (zk ?_))
 refine awp_mvB 7 5020 5140 [.t (.sc (.int .i64 g8)), .t (.sc (.str g9)), .t (.sc (.int .i64 g10)), .t (.sl (g11.map rI)), .ar 5140] ?_
 refine zap [5, 17, 18, 20, 111, 112, 113, 114, 115, 116, 117, 118, 119, 120, 121, 122, 123, 124, 125, 126, 127, 128, 129, 130, 131, 132, 133, 134, 135, 136, 137, 138, 139, 140, 141] [7, 8, 5140] [2117, 32139] [5140] (fun a : Nat × Int × Int × ByteArray × Int × (List Int) × (List Form) × Int => a.1) (fun a : Nat × Int × Int × ByteArray × Int × (List Int) × (List Form) × Int => [(17, .t (.sc (.int .i64 a.2.1)))]) (fun a : Nat × Int × Int × ByteArray × Int × (List Int) × (List Form) × Int => [(7, .box [.t (.sc (.int .i64 a.2.2.1)), .t (.sc (.str a.2.2.2.1)), .t (.sc (.int .i64 a.2.2.2.2.1)), .t (.sl (a.2.2.2.2.2.1.map rI)), .ar 5140]), (8, .box [.t (.sc (.int .i64 a.2.2.2.2.2.2.2))]), (5140, .arr (a.2.2.2.2.2.2.1.map Form.row) 32 true)]) (fun a : Nat × Int × Int × ByteArray × Int × (List Int) × (List Form) × Int => a.1 ≤ fu ∧ zc8 a.1 x1 x2 g7 v17 g45 g46 a.2.1 a.2.2.1 a.2.2.2.1 a.2.2.2.2.1 a.2.2.2.2.2.1 a.2.2.2.2.2.2.1 a.2.2.2.2.2.2.2 = some r) (fu, 0, g8, g9, g10, g11, g12, g13) ⟨Nat.le_refl _, F9⟩ (by rfl) (by rfl) (fun _ => rfl) (zG (by conv => lhs; whnf) (by rfl) za2) (zT (by conv => lhs; whnf) (by rfl) (zT (by conv => lhs; whnf) (by rfl) (zT (by conv => lhs; whnf) (by rfl) zaS))) (zbV hC rfl) (by repeat (first | exact zad rfl | refine zan rfl ?_ | refine zW rfl ?_)) (by repeat (first | exact zaD | exact zai rfl | refine zao rfl ?_ | refine zX rfl ?_)) ?_
 clear F9
 rintro ⟨fu, g48, g49, g50, g51, g52, g53, g54⟩ ⟨hl55, F10⟩
 dsimp only at hl55 F10 ⊢
 obtain _ | fu := fu
 · rw [zc8] at F10; cases F10
 rw [zc8] at F10
 refine zb (zb (za ?_))
 refine s_mv ?_
 refine s_mv ?_
 refine s_lt ?_
 refine zf (zd ?_)
 refine zm F10 ?_ ?_ <;> intro C56 F11
 refine zi (zd (zb (zk (zb (za ?_)))))
 refine s_mv ?_
 obtain ⟨v57, V57, F12⟩ := zc F11
 refine zZ [(9200, 2117)] [] _ _ (m_slices_Clone_Hit_ok fu _ _ V57) ?_
 refine s_as ?_
 refine zf (zd ?_)
 refine zbt (α := Nat × (List Hit)) [20, 118, 119, 120, 121, 122, 123, 124, 125, 126, 127, 128, 129, 130, 131, 132, 133, 134, 135] [2117] [] (fun a => []) (fun a => [(2117, .arr (a.2.map Hit.row) 48 true)]) (fun a => a.1 ≤ fu ∧ zes a.1 x1 x2 g7 v17 g45 g46 g48 g49 g50 g51 g52 g53 g54 a.2 = some r) ?_ ?_
 refine zb (za ?_)
 refine s_mv ?_
 refine zg2 yU27 ?_
 refine s_mv ?_
 refine zf (zd (zk ?_))
 refine za1 (β := Int × (List Hit)) [20, 120, 121, 122, 123, 124, 125, 126, 127, 128, 129, 130, 131, 132, 133, 134, 135] [2117] [] (fun a => [(120, .t (.sc (.int .i64 a.2.1)))]) (fun a => [(2117, .arr (a.2.2.map Hit.row) 48 true)]) (fun a => a.1 ≤ fu ∧ zcC a.1 x1 x2 g7 v17 g45 g46 g48 g49 g50 g51 g52 g53 g54 a.2.1 a.2.2 = some r ∧ 0 ≤ a.2.1) (fu, 0, v57) ⟨Nat.le_refl _, F12, by simp⟩ ?_
 clear F12
 rintro ⟨fu, g58, g59⟩ ⟨hl60, F13, hn_g58⟩
 dsimp only at hl60 F13 hn_g58 ⊢
 obtain _ | fu := fu
 · rw [zcC] at F13; cases F13
 rw [zcC] at F13
 refine zb (za ?_)
 refine s_lt ?_
 refine zf (zd (zb ?_))
 refine zm F13 ?_ ?_ <;> intro C61 F14
 refine zht 12 5080 (fun B62 => ?_)
 refine zi (zd (zb (zk (zb (za ?_)))))
 obtain ⟨v63, V63, F15⟩ := zc F14
 refine zhg rI V63 yE27 ?_
 refine s_lA1 rI V63 rfl yA3 ?_
 refine s_as ?_
 refine zf (zd (za ?_))
 iterate 4 refine s_mv ?_
 obtain ⟨v64, V64, F16⟩ := zc F15
 refine zN Hit.row V64 (Hit.row_eq _) yE42 ?_
 refine s_fa zfx ?_
 refine zu yA42 ?_
 refine s_mv ?_
 obtain ⟨v65, V65, F17⟩ := zc F16
 refine zN Hit.row V65 (Hit.row_eq _) yE42 ?_
 refine zaq yA48 yS48 ?_
 obtain ⟨v66, V66, F18⟩ := zc F17
 refine zhg Hit.row V66 yE42 ?_
 refine s_stA Hit.row v65 V66 (Hit.row_eq _) (Hit.row_eq _) yS48 yS48 ?_
 refine zf (z5 (zd (za ?_)))
 refine zO (zaA C61 B62 hn_g58) ?_
 refine s_mv ?_
 refine zf ?_
 exact s_rn (fu, (g58 + 1), (g59.set v63.toNat v65)) ⟨by first | omega | (dsimp only; omega), F18, by first | omega | (dsimp only; omega)⟩
 refine zz (zq (zp (zr ?_)))
 exact s_jn (fu, g59) ⟨by first | omega | (dsimp only; omega), F14⟩
 clear F12
 rintro ⟨fu, g67⟩ ⟨hl68, F13⟩
 dsimp only at hl68 F13 ⊢
 obtain _ | fu := fu
 · rw [zes] at F13; cases F13
 rw [zes] at F13
 refine zb (za ?_)
 refine s_mv ?_
 refine zK yA32 yS32 ?_
 refine s_mv ?_
 obtain ⟨v69, V69, F14⟩ := zc F13
 refine zZ [(9000, 8), (9001, 7), (9444, 5140), (10444, 32139)] [2117] _ _ (ih_m_impl_fill_1 fu (by omega) _ _ _ _ _ V69) ?_
 refine zby ?_
 refine zf (zd ?_)
 refine zm F14 ?_ ?_ <;> intro C70 F15
 refine zb (za ?_)
 refine zeC yZ32 yL32 ?_
 refine zac yS32 ?_
 refine s_as ?_
 refine zf (zd (zh (zj (zg (zx (zj (zj (zg (zx (zj (zg (zn ?_))))))))))))
 cases F15
 exact zI [] [] (by rw [Tryz.results42]; exact (z8 (by conv => lhs; whnf) (by conv => lhs; whnf) yA32 yS32 rfl (zae (by conv => lhs; whnf) zR)))
 refine zi (z5 (zd (za ?_)))
 refine s_mv ?_
 refine zO rfl ?_
 refine s_as ?_
 refine zf ?_
 exact s_rn (fu, (w64 (g48 + 1)), v69.2.2.kind, v69.2.2.name, v69.2.2.n, v69.2.2.scopes, v69.2.2.kids, v69.2.1) ⟨by first | omega | (dsimp only; omega), F15⟩ [(5140, 32139)]
 refine zz (zq (zp (zr (z5 (zd (za ?_))))))
 refine zO rfl ?_
 refine s_mv ?_
 refine zf ?_
 exact s_rn (fu, (w64 (g7 + 1)), g49, g50, g51, g52, g53, g54) ⟨by first | omega | (dsimp only; omega), F11⟩ [(5020, 5140)]
 refine zz (zq (zp (zr (zd (zb (za ?_))))))
 refine zK yA32 yS32 ?_
 refine zac yS32 ?_
 refine s_as ?_
 refine zf (zd (zh (zn ?_)))
 cases F3
 exact zI [] [5020] (by rw [Tryz.results42]; exact (z8 (by conv => lhs; whnf) (by conv => lhs; whnf) yA32 yS32 rfl (zae (by conv => lhs; whnf) zR)))
theorem m_impl_fill_1_st (fu : Nat) (ih_m_impl_fill : ∀ k, k ≤ fu → ze7 k) (ih_m_impl_fill_1 : ∀ k, k ≤ fu → zfp k) : zfp (fu + 1) := by
 intro x1 x2 o1 o2 r F0
 rw [zdB] at F0
 refine AC_i [.t (.sc (.bool r.1))] Tryz.func89 rfl Tryz.ntmps89 ?_
 intro C hC
 refine zb (za ?_)
 refine zbh ?_
 refine s_as ?_
 refine zf (zd (zb (za ?_)))
 refine zK yA32 yS32 ?_
 refine s_mv ?_
 obtain ⟨v1, V1, F1⟩ := zc F0
 refine zv [] (ih_m_impl_fill fu (by omega) _ _ _ V1) ?_
 refine s_mv ?_
 refine zcp ?_
 refine zcp ?_
 refine z6 yZ32 ?_
 refine zac yS32 ?_
 refine s_as ?_
 refine zf (zd (zb (zb (za ?_))))
 refine s_mv ?_
 refine zby ?_
 refine zf (zd ?_)
 refine zm F1 ?_ ?_ <;> intro C2 F2
 refine zb (za ?_)
 refine s_as ?_
 refine zf (zd ?_)
 refine awp_mvB 9001 9444 10444 [.t (.sc (.int .i64 o2.kind)), .t (.sc (.str o2.name)), .t (.sc (.int .i64 o2.n)), .t (.sl (o2.scopes.map rI)), .ar 10444] ?_
 refine zh (zg (zn ?_))
 cases F2
 exact zl _ [] Tryz.results89
 refine zi (zd (zb ?_))
 refine zY yMix (by kernel_rfl) ?_
 refine zu yA3 ?_
 refine zK yA32 yS32 ?_
 obtain ⟨v3, V3, F3⟩ := zc F2
 refine zv [] (m_impl_FormSize_ok fu _ _ V3) ?_
 refine zO rfl ?_
 refine zac yS3 ?_
 refine zal (by kernel_rfl) ?_
 refine zd (zb ?_)
 refine zY yMix (by kernel_rfl) ?_
 refine s_fa zH ?_
 refine zu yA24 ?_
 refine zK yA32 yS32 ?_
 refine zg2 yU24 ?_
 refine s_bs Form.row [(Form.mk 0 (⟨#[]⟩ : ByteArray) 0 ([] : List Int) ([] : List Form))] yP24 yR32 ?_
 obtain ⟨hk4, F4⟩ := zah F3
 refine zdT Form.row (fun y => Form.row_len y) hk4 yP24 ?_
 obtain ⟨v5, V5, F5⟩ := zc F4
 refine zhg Form.row V5 yE24 ?_
 refine s_stA Form.row v1.1 V5 (Form.row_eq _) (Form.row_eq _) yS32 yS32 ?_
 refine s_fa zH ?_
 refine zgJ yS24 ?_
 refine zal (by kernel_rfl) ?_
 refine zd (zb (za ?_))
 refine zu yA3 ?_
 refine s_le ?_
 refine s_as ?_
 refine zf (zd ?_)
 refine awp_mvB 9001 26 10444 [.t (.sc (.int .i64 o2.kind)), .t (.sc (.str o2.name)), .t (.sc (.int .i64 o2.n)), .t (.sl (o2.scopes.map rI)), .ar 10444] ?_
 refine zh (zn ?_)
 cases F5
 exact zl _ [] Tryz.results89
theorem m_impl_fill_all (fuel : Nat) : ze7 fuel ∧ zfp fuel := by
 induction fuel using Nat.strongRecOn with
 | _ N ih =>
   cases N with
   | zero => exact ⟨(by intro x1 x2 r h; rw [zdI] at h; cases h), (by intro x1 x2 o1 o2 r h; rw [zdB] at h; cases h)⟩
   | succ fu => exact ⟨m_impl_fill_st fu (fun k hk => (ih k (by omega)).1) (fun k hk => (ih k (by omega)).2), m_impl_fill_1_st fu (fun k hk => (ih k (by omega)).1) (fun k hk => (ih k (by omega)).2)⟩
theorem m_impl_fill_ok (fuel : Nat) : ze7 fuel := (m_impl_fill_all fuel).1
def m_impl_formOr_AC (fuel : Nat) : Prop := ∀ (x1 : Form) (r : (Form × Bool)), zgs fuel x1 = some r → AC Tryz.prog 43 [.ag [.t (.sc (.int .i64 x1.kind)), .t (.sc (.str x1.name)), .t (.sc (.int .i64 x1.n)), .t (.sl (x1.scopes.map rI)), .t (.sl (x1.kids.map Form.row))]] noOb (.tp [.ag [.t (.sc (.int .i64 r.1.kind)), .t (.sc (.str r.1.name)), .t (.sc (.int .i64 r.1.n)), .t (.sl (r.1.scopes.map rI)), .t (.sl (r.1.kids.map Form.row))], .t (.sc (.bool r.2))]) noOb
theorem m_impl_formOr_ok (fuel : Nat) : m_impl_formOr_AC fuel := by
 intro x1 r F0
 unfold zgs at F0
 refine AC_i [.ag [.t (.sc (.int .i64 r.1.kind)), .t (.sc (.str r.1.name)), .t (.sc (.int .i64 r.1.n)), .t (.sl (r.1.scopes.map rI)), .t (.sl (r.1.kids.map Form.row))], .t (.sc (.bool r.2))] Tryz.func43 rfl Tryz.ntmps43 ?_
 intro C hC
 refine zb (za ?_)
 refine zbh ?_
 refine z6 yZ32 ?_
 refine s_as ?_
 refine zf (zd (zb (zb (za ?_))))
 refine zK yA32 yS32 ?_
 obtain ⟨v1, V1, F1⟩ := zc F0
 refine zv [] (zd0 fuel _ _ V1) ?_
 refine zby ?_
 refine zf (zd ?_)
 refine zm F1 ?_ ?_ <;> intro C2 F2
 refine zb (za ?_)
 refine zeC yZ32 yL32 ?_
 refine zac yS32 ?_
 refine s_as ?_
 refine zf (zd (zh (zg (zn ?_))))
 cases F2
 exact zI [] [] (by rw [Tryz.results43]; exact (z8 (by conv => lhs; whnf) (by conv => lhs; whnf) yA32 yS32 rfl (zae (by conv => lhs; whnf) zR)))
 refine zi (zd (zb (za ?_)))
 refine zK yA32 yS32 ?_
 obtain ⟨v3, V3, F3⟩ := zc F2
 refine zv [] (zfS fuel _ _ V3) ?_
 refine zac yS32 ?_
 refine s_as ?_
 refine zf (zd (zh (zn ?_)))
 cases F3
 exact zI [] [] (by rw [Tryz.results43]; exact (z8 (by conv => lhs; whnf) (by conv => lhs; whnf) yA32 yS32 rfl (zae (by conv => lhs; whnf) zR)))
def m_impl_FillTemplate_AC (fuel : Nat) : Prop := ∀ (x1 : Form) (x2 : (List Hit)) (r : (Form × Bool)), zcz fuel x1 x2 = some r → AC Tryz.prog 17 [.ag [.t (.sc (.int .i64 x1.kind)), .t (.sc (.str x1.name)), .t (.sc (.int .i64 x1.n)), .t (.sl (x1.scopes.map rI)), .t (.sl (x1.kids.map Form.row))], .t (.sl (x2.map Hit.row))] noOb (.tp [.ag [.t (.sc (.int .i64 r.1.kind)), .t (.sc (.str r.1.name)), .t (.sc (.int .i64 r.1.n)), .t (.sl (r.1.scopes.map rI)), .t (.sl (r.1.kids.map Form.row))], .t (.sc (.bool r.2))]) noOb
theorem zfX (fuel : Nat) : m_impl_FillTemplate_AC fuel := by
 intro x1 x2 r F0
 unfold zcz at F0
 refine AC_i [.ag [.t (.sc (.int .i64 r.1.kind)), .t (.sc (.str r.1.name)), .t (.sc (.int .i64 r.1.n)), .t (.sl (r.1.scopes.map rI)), .t (.sl (r.1.kids.map Form.row))], .t (.sc (.bool r.2))] Tryz.func17 rfl Tryz.ntmps17 ?_
 intro C hC
 refine zb (za ?_)
 refine zbh ?_
 refine z6 yZ32 ?_
 refine s_as ?_
 refine zf (zd (zb (zb (za ?_))))
 refine zK yA32 yS32 ?_
 refine s_mv ?_
 obtain ⟨v1, V1, F1⟩ := zc F0
 refine zv [] (zhq fuel _ _ _ V1) ?_
 refine zby ?_
 refine zf (zd ?_)
 refine zm F1 ?_ ?_ <;> intro C2 F2
 refine zb (za ?_)
 refine zeC yZ32 yL32 ?_
 refine zac yS32 ?_
 refine s_as ?_
 refine zf (zd (zh (zg (zn ?_))))
 cases F2
 exact zI [] [] (by rw [Tryz.results17]; exact (z8 (by conv => lhs; whnf) (by conv => lhs; whnf) yA32 yS32 rfl (zae (by conv => lhs; whnf) zR)))
 refine zi (zd (zb (za ?_)))
 refine zK yA32 yS32 ?_
 refine s_mv ?_
 obtain ⟨v3, V3, F3⟩ := zc F2
 refine zv [] (m_impl_fill_ok fuel _ _ _ V3) ?_
 refine s_mv ?_
 refine zcp ?_
 refine zcp ?_
 refine z6 yZ32 ?_
 refine zac yS32 ?_
 refine s_as ?_
 refine zf (zd (zb (zb (za ?_))))
 refine s_mv ?_
 refine zby ?_
 refine zf (zd ?_)
 refine zm F3 ?_ ?_ <;> intro C4 F4
 refine zb (za ?_)
 refine zeC yZ32 yL32 ?_
 refine zac yS32 ?_
 refine s_as ?_
 refine zf (zd (zh (zg (zn ?_))))
 cases F4
 exact zI [] [] (by rw [Tryz.results17]; exact (z8 (by conv => lhs; whnf) (by conv => lhs; whnf) yA32 yS32 rfl (zae (by conv => lhs; whnf) zR)))
 refine zi (zd (zb (za ?_)))
 refine zK yA32 yS32 ?_
 obtain ⟨v5, V5, F5⟩ := zc F4
 refine zv [] (m_impl_formOr_ok fuel _ _ V5) ?_
 refine zcp ?_
 refine zcp ?_
 refine zac yS32 ?_
 refine s_as ?_
 refine zf (zd (zh (zn ?_)))
 cases F5
 exact zI [] [] (by rw [Tryz.results17]; exact (z8 (by conv => lhs; whnf) (by conv => lhs; whnf) yA32 yS32 rfl (zae (by conv => lhs; whnf) zR)))
def zcW (fuel : Nat) : Prop := ∀ (x1 : Form) (r : Form), zbC fuel x1 = some r → AC Tryz.prog 44 [.ag [.t (.sc (.int .i64 x1.kind)), .t (.sc (.str x1.name)), .t (.sc (.int .i64 x1.n)), .t (.sl (x1.scopes.map rI)), .t (.sl (x1.kids.map Form.row))]] noOb (.ag [.t (.sc (.int .i64 r.kind)), .t (.sc (.str r.name)), .t (.sc (.int .i64 r.n)), .t (.sl (r.scopes.map rI)), .t (.sl (r.kids.map Form.row))]) noOb
def zcN (fuel : Nat) : Prop := ∀ (x1 : (List Form)) (r : (List Form)), zcJ fuel x1 = some r → AC Tryz.prog 92 [.t (.sl (x1.map Form.row))] noOb (.t (.sl (r.map Form.row))) noOb
theorem m_spec_l15OwnForm_st (fu : Nat) (ih_m_spec_l15OwnForm : ∀ k, k ≤ fu → zcW k) (ih_m_spec_l15OwnListForm : ∀ k, k ≤ fu → zcN k) : zcW (fu + 1) := by
 intro x1 r F0
 rw [zbC] at F0
 refine AC_i [.ag [.t (.sc (.int .i64 r.kind)), .t (.sc (.str r.name)), .t (.sc (.int .i64 r.n)), .t (.sl (r.scopes.map rI)), .t (.sl (r.kids.map Form.row))]] Tryz.func44 rfl Tryz.ntmps44 ?_
 intro C hC
 refine zb (za ?_)
 refine zbh ?_
 refine z6 yZ32 ?_
 refine zf (zd (zb (za ?_)))
 refine s_bs rI ([] : List Int) yP27 yR3 ?_
 refine s_fa zeY ?_
 refine zu yA27 ?_
 obtain ⟨hk1, F1⟩ := zah F0
 refine zdT rI (fun _ => rfl) hk1 yP27 ?_
 refine s_fa zeY ?_
 refine zgJ yS27 ?_
 refine zf (zd (zb (za ?_)))
 refine s_fa zH ?_
 refine zu yA24 ?_
 obtain ⟨v2, V2, F2⟩ := zc F1
 refine zv [] (ih_m_spec_l15OwnListForm fu (by omega) _ _ V2) ?_
 refine s_fa zH ?_
 refine zgJ yS24 ?_
 refine zf (zd (zb (za ?_)))
 refine zK yA32 yS32 ?_
 refine zac yS32 ?_
 refine zf (zd (zh (zn ?_)))
 cases F2
 exact zI [] [6] (by rw [Tryz.results44]; exact (z8 (by conv => lhs; whnf) (by conv => lhs; whnf) yA32 yS32 rfl zR))
end Go.Abs
