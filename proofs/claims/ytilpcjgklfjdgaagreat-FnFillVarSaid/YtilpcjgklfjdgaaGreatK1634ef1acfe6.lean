/- A part of the proof: what the functions that the law calls answer, as pure values. -/
import Derived.Test.YtilpcjgklfjdgaaGreatK129dacfedf59
import Derived.Test.YtilpcjgklfjdgaaGreatK769a9138a681
import Derived.Test.YtilpcjgklfjdgaaGreatKc2e0a31646d6
import Derived.Test.YtilpcjgklfjdgaaGreatKee9727030f10
import Derived.Test.YtilpcjgklfjdgaaGreatK897c487d4cab
import Derived.Test.YtilpcjgklfjdgaaGreatK0dcdbcf3844c
import Derived.Test.YtilpcjgklfjdgaaGreatK9901edc955de
import Derived.Test.YtilpcjgklfjdgaaGreatK007ed5c90478
import Derived.Test.YtilpcjgklfjdgaaGreatK20a40aab30d8
import Derived.Test.YtilpcjgklfjdgaaGreatK724feeb466d9
import Derived.Test.YtilpcjgklfjdgaaGreatK1e8eb432d4fb
set_option linter.unusedSimpArgs false
set_option linter.unusedVariables false
set_option maxRecDepth 100000
set_option maxHeartbeats 4000000
namespace Go.Abs
open Go.Proofs
theorem m_spec_l4CopyHit_all (fuel : Nat) : zdX fuel := by
 induction fuel using Nat.strongRecOn with
 | _ N ih =>
   cases N with
   | zero => exact (by intro x1 r h; rw [zbM] at h; cases h)
   | succ fu => exact m_spec_l4CopyHit_st fu (fun k hk => (ih k (by omega)))
theorem m_spec_l4CopyHit_ok (fuel : Nat) : zdX fuel := (m_spec_l4CopyHit_all fuel)
def m_spec_l4Copy_AC (fuel : Nat) : Prop := ∀ (x1 : (List Hit)) (r : (List Hit)), zfK fuel x1 = some r → AC Tryz.prog 134 [.t (.sl (x1.map Hit.row))] (objs []) (.ar 9200) (objs [(9200, .arr (r.map Hit.row) 48 true)])
theorem m_spec_l4Copy_ok (fuel : Nat) : m_spec_l4Copy_AC fuel := by
 intro x1 r F0
 unfold zfK at F0
 refine AC_i [.ar 9200] Tryz.func134 rfl Tryz.ntmps134 ?_
 intro C hC
 refine zb (za ?_)
 refine s_as ?_
 refine zf (zd (zb (za ?_)))
 refine s_bs Hit.row ([] : List Hit) yP42 yR48 ?_
 refine s_as ?_
 refine zf (zd (zb (zb (za ?_))))
 refine s_as ?_
 refine zf (zd (zk ?_))
 refine zco 3 5 5020 (by conv => lhs; whnf) (by conv => lhs; whnf) rfl ?_
 refine zap [3, 4, 6, 7, 8, 9, 10, 11, 12, 13, 14, 15, 16, 17, 18, 19] [5020] [18, 19] [5020] (fun a : Nat × (List Hit) × Int => a.1) (fun a : Nat × (List Hit) × Int => [(3, .ar 5020), (4, .t (.sc (.int .i64 a.2.2)))]) (fun a : Nat × (List Hit) × Int => [(5020, .arr (a.2.1.map Hit.row) 48 true)]) (fun a : Nat × (List Hit) × Int => a.1 ≤ fuel ∧ zcR a.1 x1 a.2.1 a.2.2 = some r ∧ 0 ≤ a.2.2) (fuel, ([] : List Hit), 0) ⟨Nat.le_refl _, F0, by simp⟩ (by rfl) (by rfl) (fun _ => rfl) (zG (by conv => lhs; whnf) (by rfl) (zG (by conv => lhs; whnf) (by rfl) za2)) (zT (by conv => lhs; whnf) (by rfl) zaS) (zbV hC rfl) (by repeat (first | exact zad rfl | refine zan rfl ?_ | refine zW rfl ?_)) (by repeat (first | exact zaD | exact zai rfl | refine zao rfl ?_ | refine zX rfl ?_)) ?_
 clear F0
 rintro ⟨fu, g1, g2⟩ ⟨hl3, F1, hn_g2⟩
 dsimp only at hl3 F1 hn_g2 ⊢
 obtain _ | fu := fu
 · rw [zcR] at F1; cases F1
 rw [zcR] at F1
 refine zb (zb (za ?_))
 refine s_mv ?_
 refine s_mv ?_
 refine zE yU42 ?_
 refine s_lt ?_
 refine zf (zd ?_)
 refine zm F1 ?_ ?_ <;> intro C4 F2
 refine zV 0 (fun B5 => ?_)
 refine zi (zd (zb (zk (za ?_))))
 iterate 3 refine s_mv ?_
 obtain ⟨v6, V6, F3⟩ := zc F2
 refine zN Hit.row V6 (Hit.row_eq _) yE42 ?_
 refine zaq yA48 yS48 ?_
 obtain ⟨v7, V7, F4⟩ := zc F3
 refine zv [] (m_spec_l4CopyHit_ok fu _ _ V7) ?_
 refine s_bs Hit.row [v7] yP42 yR48 ?_
 obtain ⟨hk8, F5⟩ := zah F4
 refine zdT Hit.row (fun y => Hit.row_len y) hk8 yP42 ?_
 refine s_as ?_
 refine zf (z5 (zd (za ?_)))
 refine s_mv ?_
 refine zO (zaA C4 B5 hn_g2) ?_
 refine s_as ?_
 refine zf ?_
 exact s_rn (fu, (g1 ++ [v7]), (g2 + 1)) ⟨by first | omega | (dsimp only; omega), F5, by first | omega | (dsimp only; omega)⟩ [(5020, 19)]
 refine zz (zq (zp (zr (zd (zb (za ?_))))))
 refine s_mv ?_
 refine s_as ?_
 refine zf (zd ?_)
 refine zco 2 5020 9200 (by conv => lhs; whnf) (by conv => lhs; whnf) rfl ?_
 refine zh (zn ?_)
 cases F2
 exact zl _ [] Tryz.results134
def m_spec_MatchPattern_AC (fuel : Nat) : Prop := ∀ (x1 : (List Bind)) (x2 : Form) (x3 : (List Form)) (x4 : Form) (r : ((List Hit) × Bool)), zdg fuel x1 x2 x3 x4 = some r → AC Tryz.prog 84 [.t (.sl (x1.map Bind.row)), .ag [.t (.sc (.int .i64 x2.kind)), .t (.sc (.str x2.name)), .t (.sc (.int .i64 x2.n)), .t (.sl (x2.scopes.map rI)), .t (.sl (x2.kids.map Form.row))], .t (.sl (x3.map Form.row)), .ag [.t (.sc (.int .i64 x4.kind)), .t (.sc (.str x4.name)), .t (.sc (.int .i64 x4.n)), .t (.sl (x4.scopes.map rI)), .t (.sl (x4.kids.map Form.row))]] (objs []) (.tp [.ar 9200, .t (.sc (.bool r.2))]) (objs [(9200, .arr (r.1.map Hit.row) 48 true)])
theorem m_spec_MatchPattern_ok (fuel : Nat) : m_spec_MatchPattern_AC fuel := by
 intro x1 x2 x3 x4 r F0
 unfold zdg at F0
 refine AC_i [.ar 9200, .t (.sc (.bool r.2))] Tryz.func84 rfl Tryz.ntmps84 ?_
 intro C hC
 refine zb (za ?_)
 refine zbh ?_
 refine zbh ?_
 refine s_as ?_
 refine s_as ?_
 refine zf (zd (zb ?_))
 refine zbt (α := Nat × Bool) [12, 13, 14, 15, 16, 17, 18, 19, 20, 21, 22, 23, 24, 25] [] [] (fun a => [(25, .t (.sc (.bool a.2)))]) (fun a => []) (fun a => a.1 ≤ fuel ∧ zaB a.1 x1 x2 x3 x4 a.2 = some r) ?_ ?_
 refine za ?_
 refine s_mv ?_
 obtain ⟨v1, V1, F1⟩ := zc F0
 refine zv [] (zgn fuel _ _ V1) ?_
 refine zby ?_
 refine s_mv ?_
 refine zo _ 15 F1 ?_ ?_ <;> intro C2 F2
 iterate 4 refine r_no rfl ?_
 refine zA ?_
 refine s_mv ?_
 iterate 3 refine r_no rfl ?_
 refine zA ?_
 refine zf ?_
 exact s_jn (fuel, true) ⟨by first | omega | (dsimp only; omega), F2⟩
 refine zK yA32 yS32 ?_
 refine s_mv ?_
 obtain ⟨v3, V3, F3⟩ := zc F2
 refine zv [] (m_spec_l4Is_ok fuel _ _ _ V3) ?_
 refine zby ?_
 refine zB ?_
 refine s_mv ?_
 refine zo _ 21 F3 ?_ ?_ <;> intro C4 F4
 iterate 3 refine r_no rfl ?_
 refine zA ?_
 refine zf ?_
 exact s_jn (fuel, true) ⟨by first | omega | (dsimp only; omega), F4⟩
 refine zK yA32 yS32 ?_
 obtain ⟨v5, V5, F5⟩ := zc F4
 refine zv [] (zaJ fuel _ _ V5) ?_
 refine zby ?_
 refine zB ?_
 refine zf ?_
 exact s_jn (fuel, (!v5)) ⟨by first | omega | (dsimp only; omega), F5⟩
 clear F0
 rintro ⟨fu, g6⟩ ⟨hl7, F1⟩
 dsimp only at hl7 F1 ⊢
 obtain _ | fu := fu
 · rw [zaB] at F1; cases F1
 rw [zaB] at F1
 refine zm F1 ?_ ?_ <;> intro C8 F2
 refine zb (za ?_)
 refine s_bs Hit.row ([] : List Hit) yP42 yR48 ?_
 refine s_as ?_
 refine s_as ?_
 refine zf (zd ?_)
 refine zco 8 26 9200 (by conv => lhs; whnf) (by conv => lhs; whnf) rfl ?_
 refine zh (zg (zn ?_))
 cases F2
 exact zl _ [] Tryz.results84
 refine zi (zd (zb (za ?_)))
 refine s_mv ?_
 refine zK yA32 yS32 ?_
 refine s_mv ?_
 refine zK yA32 yS32 ?_
 obtain ⟨v9, V9, F3⟩ := zc F2
 refine zv [] (zg7 fu _ _ _ _ _ V9) ?_
 refine s_mv ?_
 refine zcp ?_
 refine zcp ?_
 refine s_as ?_
 refine s_as ?_
 refine zf (zd (zb (zb (za ?_))))
 refine s_mv ?_
 refine zby ?_
 refine zf (zd ?_)
 refine zm F3 ?_ ?_ <;> intro C10 F4
 refine zb (za ?_)
 refine s_bs Hit.row ([] : List Hit) yP42 yR48 ?_
 refine s_as ?_
 refine s_as ?_
 refine zf (zd ?_)
 refine zco 8 37 9200 (by conv => lhs; whnf) (by conv => lhs; whnf) rfl ?_
 refine zh (zg (zn ?_))
 cases F4
 exact zl _ [] Tryz.results84
 refine zi (zd (zb (za ?_)))
 refine s_mv ?_
 obtain ⟨v11, V11, F5⟩ := zc F4
 refine zZ [(9200, 2039)] [] _ _ (m_spec_l4Copy_ok fu _ _ V11) ?_
 refine s_as ?_
 refine s_as ?_
 refine zf (zd ?_)
 refine zco 8 2039 9200 (by conv => lhs; whnf) (by conv => lhs; whnf) rfl ?_
 refine zh (zn ?_)
 cases F5
 exact zl _ [] Tryz.results84
def m_spec_l5Hits_AC (fuel : Nat) : Prop := ∀ (x1 : (List Int)) (r : (Form × (List Hit))), zfG fuel x1 = some r → AC Tryz.prog 40 [.t (.sl (x1.map rB))] noOb (.tp [.ag [.t (.sc (.int .i64 r.1.kind)), .t (.sc (.str r.1.name)), .t (.sc (.int .i64 r.1.n)), .t (.sl (r.1.scopes.map rI)), .t (.sl (r.1.kids.map Form.row))], .t (.sl (r.2.map Hit.row))]) noOb
theorem m_spec_l5Hits_ok (fuel : Nat) : m_spec_l5Hits_AC fuel := by
 intro x1 r F0
 unfold zfG at F0
 refine AC_i [.ag [.t (.sc (.int .i64 r.1.kind)), .t (.sc (.str r.1.name)), .t (.sc (.int .i64 r.1.n)), .t (.sl (r.1.scopes.map rI)), .t (.sl (r.1.kids.map Form.row))], .t (.sl (r.2.map Hit.row))] Tryz.func40 rfl Tryz.ntmps40 ?_
 intro C hC
 refine zb (za ?_)
 refine z6 yZ32 ?_
 refine s_as ?_
 refine zf (zd (zb (za ?_)))
 refine s_mv ?_
 obtain ⟨v1, V1, F1⟩ := zc F0
 refine zZ [(9300, 2015)] [] _ _ (m_spec_l5Case_ok fuel _ _ V1) ?_
 refine s_mv ?_
 iterate 3 refine zcp ?_
 refine z6 yZ32 ?_
 refine s_as ?_
 refine s_as ?_
 refine zac yS32 ?_
 refine zf (zd (zb (za ?_)))
 refine s_mv ?_
 obtain ⟨v2, V2, F2⟩ := zc F1
 refine zZ [(10, 20)] [] _ _ (zha fuel _ _ V2) ?_
 refine s_as ?_
 refine zf (zd (zb (za ?_)))
 refine s_bs Bind.row ([] : List Bind) yP30 yR117 ?_
 refine s_mv ?_
 refine s_mv ?_
 refine zK yA32 yS32 ?_
 obtain ⟨v3, V3, F3⟩ := zc F2
 refine zv [22, 2015] (m_spec_FirstRule_ok fuel _ _ _ _ _ V3) ?_
 refine s_mv ?_
 refine zcp ?_
 refine zcp ?_
 refine s_as ?_
 refine s_as ?_
 refine zf (zd (zb (zb (za ?_))))
 refine s_mv ?_
 refine zby ?_
 refine zf (zd ?_)
 refine zm F3 ?_ ?_ <;> intro C4 F4
 refine zb (za ?_)
 refine s_mv ?_
 obtain ⟨v5, V5, F5⟩ := zc F4
 refine zZ [(9000, 20)] [] _ _ (m_spec_l1Some_ok fuel _ _ _ V5) ?_
 refine s_bs Hit.row ([] : List Hit) yP42 yR48 ?_
 refine zac yS32 ?_
 refine s_as ?_
 refine zf (zd (zh (zg (zn ?_))))
 cases F5
 exact zI [] [33] (by rw [Tryz.results40]; exact (z8 (by conv => lhs; whnf) (by conv => lhs; whnf) yA32 yS32 rfl (zae (by conv => lhs; whnf) zR)))
 refine zi (zd (zb ?_))
 refine zY yMix (by kernel_rfl) ?_
 refine s_bs Bind.row ([] : List Bind) yP30 yR117 ?_
 refine s_mv ?_
 refine s_mv ?_
 obtain ⟨v6, V6, F5⟩ := zc F4
 refine zhg Rule.row V6 yE23 ?_
 refine s_fa yF37_0 ?_
 refine s_lAN Rule.row V6 (Rule.row_eq _) yA32 yS32 ?_
 refine s_mv ?_
 refine zK yA32 yS32 ?_
 obtain ⟨v7, V7, F6⟩ := zc F5
 refine zZ [(9200, 2043)] [35] _ _ (m_spec_MatchPattern_ok fuel _ _ _ _ _ V7) ?_
 refine s_mv ?_
 refine zcp ?_
 refine zcp ?_
 refine s_as ?_
 refine s_as ?_
 refine zal (by kernel_rfl) ?_
 refine zd (zb (za ?_))
 refine s_mv ?_
 refine s_mv ?_
 obtain ⟨v8, V8, F7⟩ := zc F6
 refine zhg Rule.row V8 yE23 ?_
 refine s_fa yF37_1 ?_
 refine s_lAN Rule.row V8 (Rule.row_eq _) yA32 yS32 ?_
 obtain ⟨v9, V9, F8⟩ := zc F7
 refine zZ [(9203, 2051), (9204, 12051)] [] _ _ (zbN fuel _ _ V9) ?_
 refine z6 yZ32 ?_
 refine zac yS32 ?_
 refine zf (zd (zb (zb (za ?_))))
 refine s_mv ?_
 obtain ⟨v10, V10, F9⟩ := zc F8
 refine zZ [(9000, 20)] [] _ _ (zQ fuel _ _ _ V10) ?_
 refine zf (zd (zk (zb (za ?_))))
 refine s_eq ?_
 refine s_as ?_
 refine zf (zd ?_)
 refine zm F9 ?_ ?_ <;> intro C11 F10
 refine za ?_
 refine s_mv ?_
 refine s_mv ?_
 refine zK yA32 yS32 ?_
 obtain ⟨v12, V12, F11⟩ := zc F10
 refine zZ [(9000, 20)] [2051, 12051] _ _ (zcM fuel _ _ _ V12) ?_
 obtain ⟨v13, V13, F12⟩ := zc F11
 refine zZ [(9000, 20)] [] _ _ (zcM fuel _ _ _ V13) ?_
 refine zac yS32 ?_
 refine zf (z5 (zd (zb (za ?_))))
 refine zK yA32 yS32 ?_
 refine s_mv ?_
 refine zac yS32 ?_
 refine s_as ?_
 refine zf (zd (zh (zn ?_)))
 cases F12
 exact zI [] [2043] (by rw [Tryz.results40]; exact (z8 (by conv => lhs; whnf) (by conv => lhs; whnf) yA32 yS32 rfl (zae (by conv => lhs; whnf) zR)))
 refine zb (za ?_)
 refine s_eq ?_
 refine s_as ?_
 refine zf (zd ?_)
 refine zm F10 ?_ ?_ <;> intro C14 F11
 refine za ?_
 refine s_mv ?_
 refine s_bs rS [(⟨#[40, 97, 32, 46, 46, 46, 41]⟩ : ByteArray), (⟨#[40, 120, 32, 46, 46, 46, 32, 46, 46, 46, 41]⟩ : ByteArray), (⟨#[46, 46, 46]⟩ : ByteArray), (⟨#[40, 49, 32, 46, 46, 46, 41]⟩ : ByteArray), (⟨#[40, 113, 32, 40, 97, 32, 98, 41, 32, 46, 46, 46, 41]⟩ : ByteArray)] yP51 yR9 ?_
 obtain ⟨v15, V15, F12⟩ := zc F11
 refine zZ [(9000, 20)] [64] _ _ (zdx fuel _ _ _ V15) ?_
 obtain ⟨v16, V16, F13⟩ := zc F12
 refine zv [] (zdN fuel _ _ V16) ?_
 refine zac yS32 ?_
 refine zf (z5 (zd (zb (za ?_))))
 refine zK yA32 yS32 ?_
 refine s_mv ?_
 refine zac yS32 ?_
 refine s_as ?_
 refine zf (zd (zh (zn ?_)))
 cases F13
 exact zI [] [2043] (by rw [Tryz.results40]; exact (z8 (by conv => lhs; whnf) (by conv => lhs; whnf) yA32 yS32 rfl (zae (by conv => lhs; whnf) zR)))
 refine zi (z5 (zd (zb (za ?_))))
 refine zK yA32 yS32 ?_
 refine s_mv ?_
 refine zac yS32 ?_
 refine s_as ?_
 refine zf (zd (zh (zn ?_)))
 cases F11
 exact zI [] [2051, 12051, 2043] (by rw [Tryz.results40]; exact (z8 (by conv => lhs; whnf) (by conv => lhs; whnf) yA32 yS32 rfl (zae (by conv => lhs; whnf) zR)))
def zgL (fuel : Nat) : Prop := ∀ (x1 : (List Int)) (r : (Form × (List Hit))), zb2 fuel x1 = some r → AC Tryz.prog 16 [.t (.sl (x1.map rB))] noOb (.tp [.ag [.t (.sc (.int .i64 r.1.kind)), .t (.sc (.str r.1.name)), .t (.sc (.int .i64 r.1.n)), .t (.sl (r.1.scopes.map rI)), .t (.sl (r.1.kids.map Form.row))], .t (.sl (r.2.map Hit.row))]) noOb
theorem zgK (fuel : Nat) : zgL fuel := by
 intro x1 r F0
 unfold zb2 at F0
 refine AC_i [.ag [.t (.sc (.int .i64 r.1.kind)), .t (.sc (.str r.1.name)), .t (.sc (.int .i64 r.1.n)), .t (.sl (r.1.scopes.map rI)), .t (.sl (r.1.kids.map Form.row))], .t (.sl (r.2.map Hit.row))] Tryz.func16 rfl Tryz.ntmps16 ?_
 intro C hC
 refine zb (za ?_)
 refine z6 yZ32 ?_
 refine s_as ?_
 refine zf (zd (zb (za ?_)))
 refine s_mv ?_
 obtain ⟨v1, V1, F1⟩ := zc F0
 refine zv [] (m_spec_l5Hits_ok fuel _ _ V1) ?_
 refine zcp ?_
 refine zcp ?_
 refine zac yS32 ?_
 refine s_as ?_
 refine zf (zd (zh (zn ?_)))
 cases F1
 exact zI [] [] (by rw [Tryz.results16]; exact (z8 (by conv => lhs; whnf) (by conv => lhs; whnf) yA32 yS32 rfl (zae (by conv => lhs; whnf) zR)))
def m_impl_hitVars_AC (fuel : Nat) : Prop := ∀ (x1 : (List Hit)) (r : ((List Form) × (List Int))), ze6 fuel x1 = some r → AC Tryz.prog 87 [.t (.sl (x1.map Hit.row))] noOb (.tp [.t (.sl (r.1.map Form.row)), .t (.sl (r.2.map rI))]) noOb
theorem m_impl_hitVars_ok (fuel : Nat) : m_impl_hitVars_AC fuel := by
 intro x1 r F0
 unfold ze6 at F0
 refine AC_i [.t (.sl (r.1.map Form.row)), .t (.sl (r.2.map rI))] Tryz.func87 rfl Tryz.ntmps87 ?_
 intro C hC
 refine zb (za ?_)
 refine s_as ?_
 refine s_as ?_
 refine zf (zd (zb (za ?_)))
 refine s_bs Form.row ([] : List Form) yP24 yR32 ?_
 refine s_bs rI ([] : List Int) yP27 yR3 ?_
 refine s_as ?_
 refine s_as ?_
 refine zf (zd (zb (zb (za ?_))))
 refine s_mv ?_
 refine zE yU42 ?_
 refine s_mv ?_
 refine zf (zd (zk ?_))
 refine zco 4 8 5020 (by conv => lhs; whnf) (by conv => lhs; whnf) rfl ?_
 refine zco 5 9 5021 (by conv => lhs; whnf) (by conv => lhs; whnf) rfl ?_
 refine zap [4, 5, 7, 12, 13, 14, 15, 16, 17, 18, 19, 20, 21, 22, 23, 24, 25, 26] [5020, 5021] [7, 19, 20, 24, 25] [5020, 5021] (fun a : Nat × (List Form) × (List Int) × Int => a.1) (fun a : Nat × (List Form) × (List Int) × Int => [(4, .ar 5020), (5, .ar 5021), (12, .t (.sc (.int .i64 a.2.2.2)))]) (fun a : Nat × (List Form) × (List Int) × Int => [(5020, .arr (a.2.1.map Form.row) 32 true), (5021, .arr (a.2.2.1.map rI) 3 true)]) (fun a : Nat × (List Form) × (List Int) × Int => a.1 ≤ fuel ∧ zbU a.1 x1 a.2.1 a.2.2.1 a.2.2.2 = some r ∧ 0 ≤ a.2.2.2) (fuel, ([] : List Form), ([] : List Int), 0) ⟨Nat.le_refl _, F0, by simp⟩ (by rfl) (by rfl) (fun _ => rfl) (zG (by conv => lhs; whnf) (by rfl) (zG (by conv => lhs; whnf) (by rfl) (zG (by conv => lhs; whnf) (by rfl) za2))) (zT (by conv => lhs; whnf) (by rfl) (zT (by conv => lhs; whnf) (by rfl) zaS)) (zbV hC rfl) (by repeat (first | exact zad rfl | refine zan rfl ?_ | refine zW rfl ?_)) (by repeat (first | exact zaD | exact zai rfl | refine zao rfl ?_ | refine zX rfl ?_)) ?_
 clear F0
 rintro ⟨fu, g1, g2, g3⟩ ⟨hl4, F1, hn_g3⟩
 dsimp only at hl4 F1 hn_g3 ⊢
 obtain _ | fu := fu
 · rw [zbU] at F1; cases F1
 rw [zbU] at F1
 refine zb (za ?_)
 refine s_lt ?_
 refine zf (zd (zb ?_))
 refine zm F1 ?_ ?_ <;> intro C5 F2
 refine zV 0 (fun B6 => ?_)
 refine zi (zd (zb (zk (zb (za ?_)))))
 obtain ⟨v7, V7, F3⟩ := zc F2
 refine zN Hit.row V7 (Hit.row_eq _) yE42 ?_
 refine zaq yA48 yS48 ?_
 refine z6 yZ48 ?_
 refine zac yS48 ?_
 refine zf (zd ?_)
 refine zY yMix (by kernel_rfl) ?_
 refine s_mv ?_
 refine s_fa zeX ?_
 refine zaq yA32 yS32 ?_
 refine s_bs Form.row [v7.name] yP24 yR32 ?_
 obtain ⟨hk8, F4⟩ := zah F3
 refine zdT Form.row (fun y => Form.row_len y) hk8 yP24 ?_
 refine s_mv ?_
 refine s_fa zfD ?_
 refine zu yA3 ?_
 refine s_bs rI [v7.depth] yP27 yR3 ?_
 obtain ⟨hk9, F5⟩ := zah F4
 refine zdT rI (fun _ => rfl) hk9 yP27 ?_
 refine s_as ?_
 refine s_as ?_
 refine zal (by kernel_rfl) ?_
 refine z5 (zd (za ?_))
 refine zO (zaA C5 B6 hn_g3) ?_
 refine s_mv ?_
 refine zf ?_
 exact s_rn (fu, (g1 ++ [v7.name]), (g2 ++ [v7.depth]), (g3 + 1)) ⟨by first | omega | (dsimp only; omega), F5, by first | omega | (dsimp only; omega)⟩ [(5020, 20), (5021, 25)]
 refine zz (zq (zp (zr (zd (zb (za ?_))))))
 refine s_mv ?_
 refine s_mv ?_
 refine s_as ?_
 refine s_as ?_
 refine zf (zd (zh (zn ?_)))
 cases F2
 exact zl [] [5020, 5021] Tryz.results87
def m_strings_IndexByte_AC (fuel : Nat) : Prop := ∀ (x1 : ByteArray) (x2 : Int) (r : Int), zdU fuel x1 x2 = some r → AC Tryz.prog 146 [.t (.sc (.str x1)), .t (.sc (.int .u8 x2))] noOb (.t (.sc (.int .i64 r))) noOb
theorem zfV (fuel : Nat) : m_strings_IndexByte_AC fuel := by
 intro x1 x2 r h
 obtain rfl := Option.some.inj h
 exact ac_two (a := .str x1) (b := .int .u8 x2) (r := .int .i64 _) ⟨_, Tryz.func146, by kernel_rfl, by kernel_rfl⟩ (fun w => Tryz.strings_IndexByte x1 x2 w)
def m_impl_within_AC (fuel : Nat) : Prop := ∀ (x1 : Int) (x2 : Int) (x3 : Int) (r : Bool), zdA fuel x1 x2 x3 = some r → AC Tryz.prog 101 [.t (.sc (.int .i64 x1)), .t (.sc (.int .i64 x2)), .t (.sc (.int .i64 x3))] noOb (.t (.sc (.bool r))) noOb
theorem zfm (fuel : Nat) : m_impl_within_AC fuel := by
 intro x1 x2 x3 r F0
 unfold zdA at F0
 refine AC_i [.t (.sc (.bool r))] Tryz.func101 rfl Tryz.ntmps101 ?_
 intro C hC
 refine zb (za ?_)
 refine s_as ?_
 refine zf (zd (zb (za ?_)))
 refine s_mv ?_
 refine s_mv ?_
 refine s_ge ?_
 refine s_mv ?_
 refine zo _ 10 F0 ?_ ?_ <;> intro C1 F1
 refine s_mv ?_
 refine s_mv ?_
 refine s_le ?_
 refine zA ?_
 refine s_as ?_
 refine zf (zd (zh (zn ?_)))
 cases F1
 exact zl [] [] Tryz.results101
 iterate 3 refine r_no rfl ?_
 refine zB ?_
 refine s_as ?_
 refine zf (zd (zh (zn ?_)))
 cases F1
 exact zl [] [] Tryz.results101
def m_impl_NameValid_AC (fuel : Nat) : Prop := ∀ (x1 : ByteArray) (r : Bool), zen fuel x1 = some r → AC Tryz.prog 111 [.t (.sc (.str x1))] noOb (.t (.sc (.bool r))) noOb
theorem m_impl_NameValid_ok (fuel : Nat) : m_impl_NameValid_AC fuel := by
 intro x1 r F0
 unfold zen at F0
 refine AC_i [.t (.sc (.bool r))] Tryz.func111 rfl Tryz.ntmps111 ?_
 intro C hC
 refine zb (za ?_)
 refine s_as ?_
 refine zf (zd (zb (zb (za ?_))))
 refine s_mv ?_
 refine zg3 ?_
 refine s_mv ?_
 refine zo _ 7 F0 ?_ ?_ <;> intro C1 F1
 refine r_no rfl (r_no rfl ?_)
 refine zA ?_
 refine zf (zd (zM rfl (zb (za ?_))))
 refine s_as ?_
 refine zf (zd (zh (zg (zn ?_))))
 cases F1
 exact zl [] [] Tryz.results111
 refine s_mv ?_
 refine zg3 ?_
 refine zB ?_
 refine zf (zd ?_)
 refine zm F1 ?_ ?_ <;> intro C2 F2
 refine zb (za ?_)
 refine s_as ?_
 refine zf (zd (zh (zg (zn ?_))))
 cases F2
 exact zl [] [] Tryz.results111
 refine zi (zd (zb (zb (za ?_))))
 refine s_as ?_
 refine zf (zd (zk ?_))
 refine za1 (β := Int) [2, 3, 4, 11, 12, 13, 14, 15, 16, 17, 18, 19, 20, 21, 22, 23, 24, 25, 26, 27, 28, 29, 30, 31, 32, 33, 34, 35, 36, 37, 38, 39, 40, 41, 42, 43, 44, 45, 46] [] [] (fun a => [(3, .t (.sc (.int .i64 a.2)))]) (fun a => []) (fun a => a.1 ≤ fuel ∧ z4 a.1 x1 a.2 = some r) (fuel, 0) ⟨Nat.le_refl _, F2⟩ ?_
 clear F2
 rintro ⟨fu, g3⟩ ⟨hl4, F3⟩
 dsimp only at hl4 F3 ⊢
 obtain _ | fu := fu
 · rw [z4] at F3; cases F3
 rw [z4] at F3
 refine zb (zb (za ?_))
 refine s_mv ?_
 refine s_mv ?_
 refine zeB yU9 ?_
 refine s_lt ?_
 refine zf (zd ?_)
 refine zm F3 ?_ ?_ <;> intro C5 F4
 refine zi (zd (zb (zk (zb (za ?_)))))
 refine s_mv ?_
 refine s_mv ?_
 obtain ⟨v6, V6, F5⟩ := zc F4
 refine s_ixS V6 yU9 ?_
 refine s_as ?_
 refine zf (zd (zk (zb (za ?_))))
 refine s_mv ?_
 refine s_ge ?_
 refine s_mv ?_
 refine zo _ 23 F5 ?_ ?_ <;> intro C7 F6
 refine s_mv ?_
 refine s_le ?_
 refine zA ?_
 refine s_mv ?_
 refine zo _ 27 F6 ?_ ?_ <;> intro C8 F7
 iterate 3 refine r_no rfl ?_
 refine zA ?_
 refine s_as ?_
 refine zf (zd (zM rfl (zi (z5 (z5 (zd (za ?_)))))))
 refine s_mv ?_
 refine zO rfl ?_
 refine s_as ?_
 refine zf ?_
 exact s_rn (fu, (w64 (g3 + 1))) ⟨by first | omega | (dsimp only; omega), F7⟩
 refine s_mv ?_
 obtain ⟨v9, V9, F8⟩ := zc F7
 refine zv [] (zfV fu _ _ _ V9) ?_
 refine s_ge ?_
 refine zB ?_
 refine s_as ?_
 refine zf (zd ?_)
 refine zm F8 ?_ ?_ <;> intro C10 F9
 refine zi (z5 (z5 (zd (za ?_))))
 refine s_mv ?_
 refine zO rfl ?_
 refine s_as ?_
 refine zf ?_
 exact s_rn (fu, (w64 (g3 + 1))) ⟨by first | omega | (dsimp only; omega), F9⟩
 refine zb (za ?_)
 refine s_mv ?_
 refine s_gt ?_
 refine s_mv ?_
 refine zo _ 35 F9 ?_ ?_ <;> intro C11 F10
 refine s_mv ?_
 refine s_ge ?_
 refine s_mv ?_
 refine zo _ 38 F10 ?_ ?_ <;> intro C12 F11
 refine s_mv ?_
 refine s_le ?_
 refine zA ?_
 refine s_mv ?_
 refine zo _ 42 F11 ?_ ?_ <;> intro C13 F12
 refine r_no rfl (r_no rfl ?_)
 refine zA ?_
 refine zA ?_
 refine s_as ?_
 refine zf (zd (zM rfl (zi (z5 (z5 (zd (za ?_)))))))
 refine s_mv ?_
 refine zO rfl ?_
 refine s_as ?_
 refine zf ?_
 exact s_rn (fu, (w64 (g3 + 1))) ⟨by first | omega | (dsimp only; omega), F12⟩
 refine s_mv ?_
 refine s_eq ?_
 refine zB ?_
 refine zA ?_
 refine s_as ?_
 refine zf (zd ?_)
 refine zm F12 ?_ ?_ <;> intro C14 F13
 refine zi (z5 (z5 (zd (za ?_))))
 refine s_mv ?_
 refine zO rfl ?_
 refine s_as ?_
 refine zf ?_
 exact s_rn (fu, (w64 (g3 + 1))) ⟨by first | omega | (dsimp only; omega), F13⟩
 refine zb (za ?_)
 refine s_as ?_
 refine zf (zd (zh (zj (zj (zg (zx (zj (zg (zn ?_)))))))))
 cases F13
 exact zl [] [] Tryz.results111
 refine r_no rfl (r_no rfl ?_)
 refine zB ?_
 refine s_mv ?_
 refine s_mv ?_
 refine s_eq ?_
 refine zB ?_
 refine zA ?_
 refine s_as ?_
 refine zf (zd ?_)
 refine zm F11 ?_ ?_ <;> intro C15 F12
 refine zi (z5 (z5 (zd (za ?_))))
 refine s_mv ?_
 refine zO rfl ?_
 refine s_as ?_
 refine zf ?_
 exact s_rn (fu, (w64 (g3 + 1))) ⟨by first | omega | (dsimp only; omega), F12⟩
 refine zb (za ?_)
 refine s_as ?_
 refine zf (zd (zh (zj (zj (zg (zx (zj (zg (zn ?_)))))))))
 cases F12
 exact zl [] [] Tryz.results111
 iterate 10 refine r_no rfl ?_
 refine zB ?_
 refine s_as ?_
 refine zf (zd (zaI rfl (zb (za ?_))))
 refine s_as ?_
 refine zf (zd (zh (zj (zj (zg (zx (zj (zg (zn ?_)))))))))
 cases F10
 exact zl [] [] Tryz.results111
 refine r_no rfl (r_no rfl ?_)
 refine zB ?_
 refine s_mv ?_
 refine s_mv ?_
 obtain ⟨v16, V16, F7⟩ := zc F6
 refine zv [] (zfV fu _ _ _ V16) ?_
 refine s_ge ?_
 refine zB ?_
 refine s_as ?_
 refine zf (zd ?_)
 refine zm F7 ?_ ?_ <;> intro C17 F8
 refine zi (z5 (z5 (zd (za ?_))))
 refine s_mv ?_
 refine zO rfl ?_
 refine s_as ?_
 refine zf ?_
 exact s_rn (fu, (w64 (g3 + 1))) ⟨by first | omega | (dsimp only; omega), F8⟩
 refine zb (za ?_)
 refine s_mv ?_
 refine s_gt ?_
 refine s_mv ?_
 refine zo _ 35 F8 ?_ ?_ <;> intro C18 F9
 refine s_mv ?_
 refine s_ge ?_
 refine s_mv ?_
 refine zo _ 38 F9 ?_ ?_ <;> intro C19 F10
 refine s_mv ?_
 refine s_le ?_
 refine zA ?_
 refine s_mv ?_
 refine zo _ 42 F10 ?_ ?_ <;> intro C20 F11
 refine r_no rfl (r_no rfl ?_)
 refine zA ?_
 refine zA ?_
 refine s_as ?_
 refine zf (zd (zM rfl (zi (z5 (z5 (zd (za ?_)))))))
 refine s_mv ?_
 refine zO rfl ?_
 refine s_as ?_
 refine zf ?_
 exact s_rn (fu, (w64 (g3 + 1))) ⟨by first | omega | (dsimp only; omega), F11⟩
 refine s_mv ?_
 refine s_eq ?_
 refine zB ?_
 refine zA ?_
 refine s_as ?_
 refine zf (zd ?_)
 refine zm F11 ?_ ?_ <;> intro C21 F12
 refine zi (z5 (z5 (zd (za ?_))))
 refine s_mv ?_
 refine zO rfl ?_
 refine s_as ?_
 refine zf ?_
 exact s_rn (fu, (w64 (g3 + 1))) ⟨by first | omega | (dsimp only; omega), F12⟩
 refine zb (za ?_)
 refine s_as ?_
 refine zf (zd (zh (zj (zj (zg (zx (zj (zg (zn ?_)))))))))
 cases F12
 exact zl [] [] Tryz.results111
 refine r_no rfl (r_no rfl ?_)
 refine zB ?_
 refine s_mv ?_
 refine s_mv ?_
 refine s_eq ?_
 refine zB ?_
 refine zA ?_
 refine s_as ?_
 refine zf (zd ?_)
 refine zm F10 ?_ ?_ <;> intro C22 F11
 refine zi (z5 (z5 (zd (za ?_))))
 refine s_mv ?_
 refine zO rfl ?_
 refine s_as ?_
 refine zf ?_
 exact s_rn (fu, (w64 (g3 + 1))) ⟨by first | omega | (dsimp only; omega), F11⟩
 refine zb (za ?_)
 refine s_as ?_
 refine zf (zd (zh (zj (zj (zg (zx (zj (zg (zn ?_)))))))))
 cases F11
 exact zl [] [] Tryz.results111
 iterate 10 refine r_no rfl ?_
 refine zB ?_
 refine s_as ?_
 refine zf (zd (zaI rfl (zb (za ?_))))
 refine s_as ?_
 refine zf (zd (zh (zj (zj (zg (zx (zj (zg (zn ?_)))))))))
 cases F9
 exact zl [] [] Tryz.results111
 refine zz (zq (zp (zr (zd (zb (za ?_))))))
 refine s_mv ?_
 refine zeB yU9 ?_
 obtain ⟨v23, V23, F5⟩ := zc F4
 refine zv [] (zfm fu _ _ _ _ V23) ?_
 refine s_as ?_
 refine zf (zd (zh (zn ?_)))
 cases F5
 exact zl [] [] Tryz.results111
def m_impl_scopesOk_AC (fuel : Nat) : Prop := ∀ (x1 : (List Int)) (r : Bool), zeI fuel x1 = some r → AC Tryz.prog 112 [.t (.sl (x1.map rI))] noOb (.t (.sc (.bool r))) noOb
theorem m_impl_scopesOk_ok (fuel : Nat) : m_impl_scopesOk_AC fuel := by
 intro x1 r F0
 unfold zeI at F0
 refine AC_i [.t (.sc (.bool r))] Tryz.func112 rfl Tryz.ntmps112 ?_
 intro C hC
 refine zb (za ?_)
 refine s_as ?_
 refine zf (zd (zb (zb (za ?_))))
 refine s_mv ?_
 refine zE yU27 ?_
 refine s_mv ?_
 refine zf (zd (zk ?_))
 refine za1 (β := Int) [2, 3, 4, 7, 8, 9, 10, 11, 12, 13, 14, 15, 16, 17, 18, 19, 20, 21, 22, 23, 24, 25, 26, 27, 28] [] [] (fun a => [(7, .t (.sc (.int .i64 a.2)))]) (fun a => []) (fun a => a.1 ≤ fuel ∧ zbg a.1 x1 a.2 = some r ∧ 0 ≤ a.2) (fuel, 0) ⟨Nat.le_refl _, F0, by simp⟩ ?_
 clear F0
 rintro ⟨fu, g1⟩ ⟨hl2, F1, hn_g1⟩
 dsimp only at hl2 F1 hn_g1 ⊢
 obtain _ | fu := fu
 · rw [zbg] at F1; cases F1
 rw [zbg] at F1
 refine zb (za ?_)
 refine s_lt ?_
 refine zf (zd (zb ?_))
 refine zm F1 ?_ ?_ <;> intro C3 F2
 refine zV 0 (fun B4 => ?_)
 refine zi (zd (zb (zk (zb (za ?_)))))
 refine s_mv ?_
 obtain ⟨v5, V5, F3⟩ := zc F2
 refine zN rI V5 rfl yE27 ?_
 refine zu yA3 ?_
 refine s_as ?_
 refine s_as ?_
 refine zf (zd (zb (za ?_)))
 refine s_mv ?_
 obtain ⟨v6, V6, F4⟩ := zc F3
 refine zv [] (zfm fu _ _ _ _ V6) ?_
 refine zby ?_
 refine s_mv ?_
 refine zo _ 15 F4 ?_ ?_ <;> intro C7 F5
 iterate 11 refine r_no rfl ?_
 refine zA ?_
 refine zf (zd (zM rfl (zb (za ?_))))
 refine s_as ?_
 refine zf (zd (zh (zj (zg (zx (zj (zg (zn ?_))))))))
 cases F5
 exact zl [] [] Tryz.results112
 refine s_mv ?_
 refine s_gt ?_
 refine s_mv ?_
 refine zo _ 18 F5 ?_ ?_ <;> intro C8 F6
 refine s_mv ?_
 refine s_mv ?_
 refine zg1 rfl ?_
 obtain ⟨v9, V9, F7⟩ := zc F6
 refine zN rI V9 rfl yE27 ?_
 refine zu yA3 ?_
 refine s_mv ?_
 refine s_ge ?_
 refine zA ?_
 refine zB ?_
 refine zf (zd ?_)
 refine zm F7 ?_ ?_ <;> intro C10 F8
 refine zb (za ?_)
 refine s_as ?_
 refine zf (zd (zh (zj (zg (zx (zj (zg (zn ?_))))))))
 cases F8
 exact zl [] [] Tryz.results112
 refine zi (z5 (zd (za ?_)))
 refine zO (zaA C3 B4 hn_g1) ?_
 refine s_mv ?_
 refine zf ?_
 exact s_rn (fu, (g1 + 1)) ⟨by first | omega | (dsimp only; omega), F8, by first | omega | (dsimp only; omega)⟩
 iterate 7 refine r_no rfl ?_
 refine zB ?_
 refine zB ?_
 refine zf (zd (zaI rfl (zi (z5 (zd (za ?_))))))
 refine zO (zaA C3 B4 hn_g1) ?_
 refine s_mv ?_
 refine zf ?_
 exact s_rn (fu, (g1 + 1)) ⟨by first | omega | (dsimp only; omega), F6, by first | omega | (dsimp only; omega)⟩
 refine zz (zq (zp (zr (zd (zb (za ?_))))))
 refine s_mv ?_
 refine zE yU27 ?_
 refine s_le ?_
 refine s_as ?_
 refine zf (zd (zh (zn ?_)))
 cases F2
 exact zl [] [] Tryz.results112
def zfo (fuel : Nat) : Prop := ∀ (x1 : Form) (x2 : Int) (o1 : Int) (r : (Bool × Int)), zdZ fuel x1 x2 o1 = some r → AC Tryz.prog 115 [.ag [.t (.sc (.int .i64 x1.kind)), .t (.sc (.str x1.name)), .t (.sc (.int .i64 x1.n)), .t (.sl (x1.scopes.map rI)), .t (.sl (x1.kids.map Form.row))], .t (.sc (.int .i64 x2)), .rf 9000 0] (objs [(9000, .box [.t (.sc (.int .i64 o1))])]) (.t (.sc (.bool r.1))) (objs [(9000, .box [.t (.sc (.int .i64 r.2))])])
theorem m_impl_formOk_st (fu : Nat) (ih_m_impl_formOk : ∀ k, k ≤ fu → zfo k) : zfo (fu + 1) := by
 intro x1 x2 o1 r F0
 rw [zdZ] at F0
 refine AC_i [.t (.sc (.bool r.1))] Tryz.func115 rfl Tryz.ntmps115 ?_
 intro C hC
 refine zb (za ?_)
 refine zbh ?_
 refine s_as ?_
 refine zf (zd (zb (za ?_)))
 refine s_mv ?_
 refine s_nc ?_
 refine zu yA3 ?_
 refine zg1 rfl ?_
 refine s_nc ?_
 refine zac yS3 ?_
 refine zf (zd (zb (zb (za ?_))))
 refine s_mv ?_
 refine s_nc ?_
 refine zu yA3 ?_
 refine s_lt ?_
 refine s_mv ?_
 refine zo _ 18 F0 ?_ ?_ <;> intro C1 F1
 refine r_no rfl (r_no rfl ?_)
 refine zA ?_
 refine zf (zd (zM rfl (zb (za ?_))))
 refine s_as ?_
 refine zf (zd (zh (zg (zn ?_))))
 cases F1
 exact zl _ [] Tryz.results115
 refine s_mv ?_
 refine s_gt ?_
 refine zB ?_
 refine zf (zd ?_)
 refine zm F1 ?_ ?_ <;> intro C2 F2
 refine zb (za ?_)
 refine s_as ?_
 refine zf (zd (zh (zg (zn ?_))))
 cases F2
 exact zl _ [] Tryz.results115
 refine zi (zd (zb (zb (za ?_))))
 refine s_fa zc2 ?_
 refine zu yA3 ?_
 refine zf (zd (zk (zb (za ?_))))
 refine s_eq ?_
 refine s_as ?_
 refine zf (zd ?_)
 refine zm F2 ?_ ?_ <;> intro C3 F3
 refine zb (za ?_)
 refine s_fa zdm ?_
 refine zu yA9 ?_
 obtain ⟨v4, V4, F4⟩ := zc F3
 refine zv [] (m_impl_NameValid_ok fu _ _ V4) ?_
 refine s_mv ?_
 refine zo _ 29 F4 ?_ ?_ <;> intro C5 F5
 refine s_fa zf9 ?_
 refine zu yA3 ?_
 refine s_eq ?_
 refine zA ?_
 refine s_mv ?_
 refine zo _ 34 F5 ?_ ?_ <;> intro C6 F6
 refine s_fa zeY ?_
 refine zu yA27 ?_
 obtain ⟨v7, V7, F7⟩ := zc F6
 refine zv [] (m_impl_scopesOk_ok fu _ _ V7) ?_
 refine zA ?_
 refine s_mv ?_
 refine zo _ 39 F7 ?_ ?_ <;> intro C8 F8
 refine s_fa zH ?_
 refine zu yA24 ?_
 refine zE yU24 ?_
 refine s_eq ?_
 refine zA ?_
 refine s_as ?_
 refine zf (zd (zh (zj (zg (zn ?_)))))
 cases F8
 exact zl _ [] Tryz.results115
 iterate 4 refine r_no rfl ?_
 refine zB ?_
 refine s_as ?_
 refine zf (zd (zh (zj (zg (zn ?_)))))
 cases F8
 exact zl _ [] Tryz.results115
 iterate 3 refine r_no rfl ?_
 refine zB ?_
 refine s_mv ?_
 iterate 4 refine r_no rfl ?_
 refine zB ?_
 refine s_as ?_
 refine zf (zd (zh (zj (zg (zn ?_)))))
 cases F6
 exact zl _ [] Tryz.results115
 iterate 3 refine r_no rfl ?_
 refine zB ?_
 refine s_mv ?_
 iterate 3 refine r_no rfl ?_
 refine zB ?_
 refine s_mv ?_
 iterate 4 refine r_no rfl ?_
 refine zB ?_
 refine s_as ?_
 refine zf (zd (zh (zj (zg (zn ?_)))))
 cases F5
 exact zl _ [] Tryz.results115
 refine zb (za ?_)
 refine s_eq ?_
 refine s_as ?_
 refine zf (zd ?_)
 refine zm F3 ?_ ?_ <;> intro C9 F4
 refine zb (za ?_)
 refine s_fa zdm ?_
 refine zu yA9 ?_
 refine zg3 ?_
 refine s_mv ?_
 refine zo _ 50 F4 ?_ ?_ <;> intro C10 F5
 refine s_fa zf9 ?_
 refine zu yA3 ?_
 obtain ⟨v11, V11, F6⟩ := zc F5
 refine zv [] (zfm fu _ _ _ _ V11) ?_
 refine zA ?_
 refine s_mv ?_
 refine zo _ 55 F6 ?_ ?_ <;> intro C12 F7
 refine s_fa zeY ?_
 refine zu yA27 ?_
 refine zE yU27 ?_
 refine s_eq ?_
 refine zA ?_
 refine s_mv ?_
 refine zo _ 61 F7 ?_ ?_ <;> intro C13 F8
 refine s_fa zH ?_
 refine zu yA24 ?_
 refine zE yU24 ?_
 refine s_eq ?_
 refine zA ?_
 refine s_as ?_
 refine zf (zd (zh (zj (zg (zn ?_)))))
 cases F8
 exact zl _ [] Tryz.results115
 iterate 4 refine r_no rfl ?_
 refine zB ?_
 refine s_as ?_
 refine zf (zd (zh (zj (zg (zn ?_)))))
 cases F8
 exact zl _ [] Tryz.results115
 iterate 4 refine r_no rfl ?_
 refine zB ?_
 refine s_mv ?_
 iterate 4 refine r_no rfl ?_
 refine zB ?_
 refine s_as ?_
 refine zf (zd (zh (zj (zg (zn ?_)))))
 cases F7
 exact zl _ [] Tryz.results115
 iterate 3 refine r_no rfl ?_
 refine zB ?_
 refine s_mv ?_
 iterate 4 refine r_no rfl ?_
 refine zB ?_
 refine s_mv ?_
 iterate 4 refine r_no rfl ?_
 refine zB ?_
 refine s_as ?_
 refine zf (zd (zh (zj (zg (zn ?_)))))
 cases F5
 exact zl _ [] Tryz.results115
 refine zb (za ?_)
 refine s_eq ?_
 refine s_as ?_
 refine zf (zd ?_)
 refine zm F4 ?_ ?_ <;> intro C14 F5
 refine zb (zb (za ?_))
 refine s_fa zdm ?_
 refine zu yA9 ?_
 refine s_neS ?_
 refine s_mv ?_
 refine zo _ 72 F5 ?_ ?_ <;> intro C15 F6
 iterate 3 refine r_no rfl ?_
 refine zA ?_
 refine s_mv ?_
 iterate 4 refine r_no rfl ?_
 refine zA ?_
 refine zf (zd (zM rfl (zb (za ?_))))
 refine s_as ?_
 refine zf (zd (zh (zg (zj (zg (zn ?_))))))
 cases F6
 exact zl _ [] Tryz.results115
 refine s_fa zf9 ?_
 refine zu yA3 ?_
 refine s_ne ?_
 refine zB ?_
 refine s_mv ?_
 refine zo _ 77 F6 ?_ ?_ <;> intro C16 F7
 iterate 4 refine r_no rfl ?_
 refine zA ?_
 refine zf (zd (zM rfl (zb (za ?_))))
 refine s_as ?_
 refine zf (zd (zh (zg (zj (zg (zn ?_))))))
 cases F7
 exact zl _ [] Tryz.results115
 refine s_fa zeY ?_
 refine zu yA27 ?_
 refine zE yU27 ?_
 refine s_gt ?_
 refine zB ?_
 refine zf (zd ?_)
 refine zm F7 ?_ ?_ <;> intro C17 F8
 refine zV 79 (fun B18 => ?_)
 refine zb (za ?_)
 refine s_as ?_
 refine zf (zd (zh (zg (zj (zg (zn ?_))))))
 cases F8
 exact zl _ [] Tryz.results115
 refine zi (zd (zb (zb (za ?_))))
 refine s_fa zH ?_
 refine zu yA24 ?_
 refine zE yU24 ?_
 refine s_mv ?_
 refine zf (zd (zk ?_))
 refine za1 (β := Int × Int) [6, 8, 86, 87, 88, 89, 90, 91, 92, 93, 94, 95, 96] [9000] [8] (fun a => [(86, .t (.sc (.int .i64 a.2.1)))]) (fun a => [(9000, .box [.t (.sc (.int .i64 a.2.2))])]) (fun a => a.1 ≤ fu ∧ zcm a.1 x1 x2 a.2.1 a.2.2 = some r ∧ 0 ≤ a.2.1) (fu, 0, (w64 (o1 - 1))) ⟨Nat.le_refl _, F8, by simp⟩ ?_
 clear F8
 rintro ⟨fu, g19, g20⟩ ⟨hl21, F9, hn_g19⟩
 dsimp only at hl21 F9 hn_g19 ⊢
 obtain _ | fu := fu
 · rw [zcm] at F9; cases F9
 rw [zcm] at F9
 refine zb (za ?_)
 refine s_lt ?_
 refine zf (zd (zb ?_))
 refine zm F9 ?_ ?_ <;> intro C22 F10
 refine zV 84 (fun B23 => ?_)
 refine zi (zd (zb (zk (zb (za ?_)))))
 obtain ⟨v24, V24, F11⟩ := zc F10
 refine zN Form.row V24 (Form.row_eq _) yE24 ?_
 refine zaq yA32 yS32 ?_
 refine z6 yZ32 ?_
 refine zac yS32 ?_
 refine zf (zd (zb (za ?_)))
 refine zK yA32 yS32 ?_
 refine s_mv ?_
 refine zO rfl ?_
 refine s_mv ?_
 obtain ⟨v25, V25, F12⟩ := zc F11
 refine zZ [(9000, 9000)] [] _ _ (ih_m_impl_formOk fu (by omega) _ _ _ _ V25) ?_
 refine zby ?_
 refine zf (zd ?_)
 refine zm F12 ?_ ?_ <;> intro C26 F13
 refine zb (za ?_)
 refine s_as ?_
 refine zf (zd (zh (zj (zg (zx (zj (zg (zj (zg (zn ?_))))))))))
 cases F13
 exact zl _ [] Tryz.results115
 refine zi (z5 (zd (za ?_)))
 refine zO (zaA C22 B23 hn_g19) ?_
 refine s_mv ?_
 refine zf ?_
 exact s_rn (fu, (g19 + 1), v25.2) ⟨by first | omega | (dsimp only; omega), F13, by first | omega | (dsimp only; omega)⟩
 refine zz (zq (zp (zr (zd (zb (za ?_))))))
 refine s_as ?_
 refine zf (zd (zh (zj (zg (zn ?_)))))
 cases F10
 exact zl _ [] Tryz.results115
 refine zi (z5 (zd (zb (za ?_))))
 refine s_as ?_
 refine zf (zd (zh (zn ?_)))
 cases F5
 exact zl _ [] Tryz.results115
end Go.Abs
