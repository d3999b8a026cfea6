/- A part of the proof: what the functions that the law calls answer, as pure values. -/
import Derived.Test.YtidbdmpbcpanjaaGreatDoorK10a31c29eeb6
import Derived.Test.YtidbdmpbcpanjaaGreatDoorK2cf43c99d87e
import Derived.Test.YtidbdmpbcpanjaaGreatDoorK3aa03bdccf4b
import Derived.Test.YtidbdmpbcpanjaaGreatDoorK48591414590f
import Derived.Test.YtidbdmpbcpanjaaGreatDoorK5189e2bb4b1a
import Derived.Test.YtidbdmpbcpanjaaGreatDoorKcff3435a29be
set_option linter.unusedSimpArgs false
set_option linter.unusedVariables false
set_option maxRecDepth 100000
set_option maxHeartbeats 4000000
namespace Go.Abs
open Go.Proofs
open Go.Proofs Go.RowKit Go.Sort Go.Lib in
theorem idx_rune (r : Int) (h1 : 128 ≤ r) (h2 : r ≤ 2147483647) (w : World) :
   Calls Tryz.prog 72 #[.string ⟨#[32, 40, 41, 123, 125]⟩, .int .i32 r] w fun e w' => e = .returned (.int .i64 (-1)) ∧ Below w.heap.size w w' := by
 by_cases hE : r = 65533
 · subst hE
   go_enter Tryz.func72, Tryz.ntmps72
   go_wp2
   go_loopg [5, 6] 5 (fun g _ _ wx => ∃ i : Nat, i + g = 5 ∧ wx = w.iter ⟨#[32, 40, 41, 123, 125]⟩ i)
   case atStart => exact ⟨0, by omega, rfl⟩
   case round =>
     obtain ⟨i, hi, rfl⟩ := hrel
     cases gk with
     | zero =>
       obtain rfl : i = 5 := by omega
       have hnx := fun ty => run_next_end (P := Tryz.prog) w ⟨#[32, 40, 41, 123, 125]⟩ 5 ty (by decide)
       go_wp2
       go_ret
       exact ⟨rfl, below_iter w _ 5⟩
     | succ g =>
       have h5 : i = 0 ∨ i = 1 ∨ i = 2 ∨ i = 3 ∨ i = 4 := by omega
       have hnx := fun ty => run_next_any (P := Tryz.prog) w ⟨#[32, 40, 41, 123, 125]⟩ i ty (by show i < 5; omega)
       rcases h5 with rfl | rfl | rfl | rfl | rfl
       all_goals
         rw [show Utf8.decode ⟨#[32, 40, 41, 123, 125]⟩ _ = _ from rfl] at hnx
       all_goals go_wp2
       all_goals go_roundg g
       all_goals first | omega | exact ⟨1, by omega, rfl⟩ | exact ⟨2, by omega, rfl⟩ | exact ⟨3, by omega, rfl⟩ | exact ⟨4, by omega, rfl⟩ | exact ⟨5, by omega, rfl⟩
 · cases hv : Utf8.valid r with
   | false =>
     have hw := fun w => idx_rune_valid r h1 h2 w
     rw [hv] at hw
     go_enter Tryz.func72, Tryz.ntmps72
     go_wp2_with (first | (go_at_call 92; refine (hw _).mono ?_; rintro e w1 ⟨rfl, rfl⟩) | go_in)
     go_ret
     exact ⟨rfl, Below.refl _ _⟩
   | true =>
     have hw := fun w => idx_rune_valid r h1 h2 w
     rw [hv] at hw
     have hiB2 : ∀ (k : Nat) (b : UInt8), 128 ≤ b.toNat → ∀ w, Calls Tryz.prog 57 #[.string ((⟨#[32, 40, 41, 123, 125]⟩ : ByteArray).extract k 5), .int .u8 (b.toNat : Int)] w fun e w' => e = .returned (.int .i64 (-1)) ∧ w' = w := fun k b hb w => by
       have h := Tryz.strings_IndexByte ((⟨#[32, 40, 41, 123, 125]⟩ : ByteArray).extract k 5) (b.toNat : Int) w
       rw [idx_high _ _ (fun x hx => by
         rw [ByteArray.data_extract, Array.toList_extract] at hx
         have hx := List.mem_of_mem_drop (List.mem_of_mem_take (show x ∈ ((⟨#[32, 40, 41, 123, 125]⟩ : ByteArray).data.toList.drop k).take (5 - k) from hx))
         simp at hx
         rcases hx with rfl | rfl | rfl | rfl | rfl <;> decide) (by simpa using hb)] at h
       exact h
     rcases enc_cases r h1 hv with ⟨a, b, he, hb⟩ | ⟨a, b, c, he, hb⟩ | ⟨a, b, c, d, he, hb⟩
     · go_enter Tryz.func72, Tryz.ntmps72
       go_wp2_with (first | (go_at_call 92; refine (hw _).mono ?_; rintro e w1 ⟨rfl, rfl⟩) | go_in)
       · go_step3
         go_wp2
         go_loopg [9, 10] 1 (fun g i _ wx => i = .int .i64 1 ∧ wx = w1)
         case atStart => exact ⟨rfl, rfl⟩
         case round =>
           obtain ⟨rfl, rfl⟩ := hrel
           have hn1 : ¬ (40 : Int) = (b.toNat : Int) := by omega
           go_wp2
           go_step3
           go_wp2
           go_quiet (fail)
           go_wp2
           · rename_i hne
             have hw2 : IntKind.i64.wrap 2 = 2 := by decide
             have hw3 : IntKind.i64.wrap (1 + 1) = 2 := by decide
             refine wp_region_quiet_lit (by kernel_rfl) (by kernel_rfl) ?_
             have hiB1 := hiB2 2 b hb
             repeat (quiet_step ((go_at_call 57; exact (hiB1 _).mono fun _ _ h => ⟨h.1, _, h.2⟩)))
             refine wpQuiet_nil ?_
             intro _ hw'
             obtain ⟨nq2, rfl⟩ := hw'
             go_wp2
             simp only [Exit.noGoto, Exit.inBlock, Exit.then]
             go_ret
             exact ⟨rfl, below_drewN wr _⟩
           · rename_i hne K1 ha
             exfalso
             have e1 : (40 : Int) = (b.toNat : Int) := by simp only [bne_eq_false_iff_eq] at hne; exact hne
             exact hn1 e1
     · go_enter Tryz.func72, Tryz.ntmps72
       go_wp2_with (first | (go_at_call 92; refine (hw _).mono ?_; rintro e w1 ⟨rfl, rfl⟩) | go_in)
       · go_step3
         go_wp2
         go_loopg [9, 10] 1 (fun g i _ wx => i = .int .i64 2 ∧ wx = w1)
         case atStart => exact ⟨rfl, rfl⟩
         case round =>
           obtain ⟨rfl, rfl⟩ := hrel
           have hn1 : ¬ (41 : Int) = (c.toNat : Int) := by omega
           go_wp2
           go_step3
           go_wp2
           go_quiet (fail)
           go_wp2
           · rename_i hne
             have hw2 : IntKind.i64.wrap 3 = 3 := by decide
             have hw3 : IntKind.i64.wrap (2 + 1) = 3 := by decide
             refine wp_region_quiet_lit (by kernel_rfl) (by kernel_rfl) ?_
             have hiB1 := hiB2 3 c hb
             repeat (quiet_step ((go_at_call 57; exact (hiB1 _).mono fun _ _ h => ⟨h.1, _, h.2⟩)))
             refine wpQuiet_nil ?_
             intro _ hw'
             obtain ⟨nq2, rfl⟩ := hw'
             go_wp2
             simp only [Exit.noGoto, Exit.inBlock, Exit.then]
             go_ret
             exact ⟨rfl, below_drewN wr _⟩
           · rename_i hne K1 ha
             exfalso
             have e1 : (41 : Int) = (c.toNat : Int) := by simp only [bne_eq_false_iff_eq] at hne; exact hne
             exact hn1 e1
     · go_enter Tryz.func72, Tryz.ntmps72
       go_wp2_with (first | (go_at_call 92; refine (hw _).mono ?_; rintro e w1 ⟨rfl, rfl⟩) | go_in)
       · go_step3
         go_wp2
         go_loopg [9, 10] 1 (fun g i _ wx => i = .int .i64 3 ∧ wx = w1)
         case atStart => exact ⟨rfl, rfl⟩
         case round =>
           obtain ⟨rfl, rfl⟩ := hrel
           have hn1 : ¬ (123 : Int) = (d.toNat : Int) := by omega
           go_wp2
           go_step3
           go_wp2
           go_quiet (fail)
           go_wp2
           · rename_i hne
             have hw2 : IntKind.i64.wrap 4 = 4 := by decide
             have hw3 : IntKind.i64.wrap (3 + 1) = 4 := by decide
             refine wp_region_quiet_lit (by kernel_rfl) (by kernel_rfl) ?_
             have hiB1 := hiB2 4 d hb
             repeat (quiet_step ((go_at_call 57; exact (hiB1 _).mono fun _ _ h => ⟨h.1, _, h.2⟩)))
             refine wpQuiet_nil ?_
             intro _ hw'
             obtain ⟨nq2, rfl⟩ := hw'
             go_wp2
             simp only [Exit.noGoto, Exit.inBlock, Exit.then]
             go_ret
             exact ⟨rfl, below_drewN wr _⟩
           · rename_i hne K1 ha
             exfalso
             have e1 : (123 : Int) = (d.toNat : Int) := by simp only [bne_eq_false_iff_eq] at hne; exact hne
             exact hn1 e1
open Go.Proofs Go.RowKit Go.Sort Go.Lib in
theorem idx_any_short (s : ByteArray) (h8 : s.size ≤ 8) (w : World) :
   Calls Tryz.prog 55 #[.string s, .string ⟨#[32, 40, 41, 123, 125]⟩] w fun e w' => e = .returned (.int .i64 (Lib.indexAny s.data.toList [32, 40, 41, 123, 125])) ∧ Below w.heap.size w w' := by
 have h8z : decide ((8 : Int) < (s.size : Int)) = false := decide_eq_false (by omega)
 go_enter Tryz.func55, Tryz.ntmps55
 go_wp2_with (go_at_call 73; refine (Tryz.strings_shouldUseASCIISet _ _).mono ?_; rintro e w' ⟨rfl, hw⟩; rw [hw, h8z])
 go_loopg [9, 10] s.size (fun g _ _ wx => ∃ i : Nat, i + g = s.size ∧ wx.heap[w.heap.size]? = some (.stringIter s i) ∧ Below w.heap.size w wx ∧ Lib.NoAny s.data.toList [32, 40, 41, 123, 125] i)
 case atStart => exact ⟨0, by omega, World.iter_heap w s 0, below_iter w s 0, Lib.NoAny.zero _ _⟩
 case round =>
   obtain ⟨i, hig, hk, hb, hno⟩ := hrel
   have HN : Aside (Lib.NoAny s.data.toList [32, 40, 41, 123, 125] i) := hno
   clear hno
   cases gk with
   | zero =>
     obtain rfl : i = s.size := by omega
     have hnx := fun ty => run_next_end_at (P := Tryz.prog) wr w.heap.size s s.size ty hk (Nat.lt_irrefl _)
     go_wp2
     go_ret
     exact ⟨by rw [Lib.indexAny_none (by rw [← Lib.size_eq]; exact HN.out)]; rfl, hb⟩
   | succ g =>
     have hi : i < s.size := by omega
     obtain ⟨x, hx⟩ : ∃ x : UInt8, s[i]'hi = x := ⟨_, rfl⟩
     have hxl : s.data.toList[i]? = some x := by rw [← hx]; exact Lib.data_getElem? s i hi
     have Hx : Aside (s.data.toList[i]? = some x) := hxl
     have hnx := fun ty => run_next_any_at (P := Tryz.prog) wr w.heap.size s i ty hk hi
     have hk2 := fun p => iterAt_heap wr w.heap.size s i p hk
     have hb2 := fun p => below_iterAt hb (Nat.le_refl w.heap.size) s p
     by_cases hx128 : x.toNat < 128
     · rw [decode_ascii s i hi (by rw [hx]; exact hx128), hx] at hnx
       clear hxl hx
       have hcon := Lib.contains_iff_indexByte [32, 40, 41, 123, 125] x
       have hback : ((x.toNat : Int)).toNat.toUInt8 = x := by simp
       cases hin : ([32, 40, 41, 123, 125] : List UInt8).contains x
       · rw [hin] at hcon
         have hlt : ¬ ((0 : Int) ≤ Lib.indexByte [32, 40, 41, 123, 125] x) := of_decide_eq_false hcon.symm
         clear hcon
         have hR : ∀ w, Calls Tryz.prog 72 #[.string ⟨#[32, 40, 41, 123, 125]⟩, .int .i32 (x.toNat : Int)] w fun e w' => e = .returned (.int .i64 (Lib.indexByte [32, 40, 41, 123, 125] x)) ∧ w' = w := fun w => by
           have := Tryz.strings_IndexRune_ascii ⟨#[32, 40, 41, 123, 125]⟩ (x.toNat : Int) w (by omega) (by omega)
           rw [hback] at this; exact this
         go_wp2_with (go_at_call 72; refine (hR _).mono ?_; rintro e w' ⟨rfl, hw⟩; rw [hw])
         go_roundg g
         case measure => omega
         case rel => exact ⟨i + 1, by omega, hk2 _, hb2 _, HN.out.succ Hx.out hin⟩
       · rw [hin] at hcon
         have hge : (0 : Int) ≤ Lib.indexByte [32, 40, 41, 123, 125] x := of_decide_eq_true hcon.symm
         clear hcon
         have hR : ∀ w, Calls Tryz.prog 72 #[.string ⟨#[32, 40, 41, 123, 125]⟩, .int .i32 (x.toNat : Int)] w fun e w' => e = .returned (.int .i64 (Lib.indexByte [32, 40, 41, 123, 125] x)) ∧ w' = w := fun w => by
           have := Tryz.strings_IndexRune_ascii ⟨#[32, 40, 41, 123, 125]⟩ (x.toNat : Int) w (by omega) (by omega)
           rw [hback] at this; exact this
         go_wp2_with (go_at_call 72; refine (hR _).mono ?_; rintro e w' ⟨rfl, hw⟩; rw [hw])
         go_ret
         exact ⟨by rw [Lib.indexAny_hit HN.out Hx.out hin]; rfl, hb2 _⟩
     · have hhigh := decode_high s i hi (by rw [hx]; omega)
       have hle := decode_le s i
       have HC : Aside (∀ j, j < (Utf8.decode s i).2 → ∃ hj : i + j < s.size, 128 ≤ (s[i + j]'hj).toNat) := decode_cont s i hi (by rw [hx]; omega)
       have hsz : i + (Utf8.decode s i).2 ≤ s.size := by
         obtain ⟨hj, _⟩ := HC.out ((Utf8.decode s i).2 - 1) (by omega)
         omega
       clear hxl hx
       generalize Utf8.decode s i = dc at hnx hhigh hle HC hsz
       obtain ⟨rn, wd⟩ := dc
       dsimp only at hnx hhigh hle HC hsz
       have hR := fun w => idx_rune (rn : Int) (by omega) (by omega) w
       go_wp2_with (go_at_call 72; refine (hR _).mono ?_; rintro e w' ⟨rfl, hw⟩)
       go_roundg (s.size - (i + wd))
       case measure => omega
       case rel =>
         refine ⟨i + wd, by omega, ?_, ?_, noAny_on HN.out HC.out⟩
         · rw [hw.block _ ?_]
           · exact hk2 _
           · exact (Array.getElem?_eq_some_iff.1 (hk2 (i + wd))).1
         · exact (hb2 (i + wd)).trans ⟨hw.os, hw.tape, hw.output, hw.size, fun k hk3 => hw.block k (Nat.lt_of_lt_of_le hk3 (by rw [iterAt_size]; exact hb.size))⟩
theorem m_strings_IndexAny_ok (fuel : Nat) : m_strings_IndexAny_AC fuel := by
 intro x1 x2 r h
 obtain ⟨h0, h⟩ := chk_some h
 obtain ⟨h1, h⟩ := chk_some h
 obtain rfl := Option.some.inj h
 obtain rfl := of_decide_eq_true h1
 have h0 := of_decide_eq_true h0
 refine ac_two_b (a := .str x1) (b := .str _) (r := .int .i64 _) ⟨_, Tryz.func55, by kernel_rfl, by kernel_rfl⟩ (fun w _ => ?_)
 by_cases h8 : x1.size ≤ 8
 · exact idx_any_short x1 h8 w
 · have hz : (Tryz.prog.info? 92).map (fun i => (i.zero, i.size)) = some (some (.agg (Array.replicate 256 (.bool false))), 256) := by kernel_rfl
   refine (Tryz.strings_IndexAny_long (zero_of_info hz).1 x1 _ w (by decide) (by omega) h0 (by decide) (asc_all (l := [32, 40, 41, 123, 125]) (by decide))).mono fun e w' q => ⟨q.1, ?_⟩
   rw [q.2]
   exact below_alloc2 w _ _
def m_impl_scan_word_AC (fuel : Nat) : Prop := ∀ (o1 : scan) (r : (ByteArray × scan)), m_impl_scan_word fuel o1 = some r → AC Tryz.prog 34 [.rf 9000 0] (objs [(9000, .box [.t (.sc (.str o1.s)), .t (.sc (.bool o1.bad))])]) (.t (.sc (.str r.1))) (objs [(9000, .box [.t (.sc (.str r.2.s)), .t (.sc (.bool r.2.bad))])])
theorem m_impl_scan_word_ok (fuel : Nat) : m_impl_scan_word_AC fuel := by
 intro o1 r hF0
 unfold m_impl_scan_word at hF0
 refine AC_i [.t (.sc (.str r.1))] Tryz.func34 rfl Tryz.ntmps34 ?_
 intro C hC
 refine awp_seq (awp_region ?_)
 refine s_as ?_
 refine k_nil (k_seq (awp_seq (awp_region ?_)))
 refine s_mv ?_
 refine s_nc ?_
 refine s_fa yF38_0 ?_
 refine s_ld1 yA9 ?_
 obtain ⟨v1, hv1, hF1⟩ := bind_some' hF0
 refine s_pure [] (m_strings_IndexAny_ok fuel _ _ _ hv1) ?_
 refine s_as ?_
 refine k_nil (k_seq ?_)
 refine awp_jn (α := Nat × Int) [3, 10, 11, 12, 13, 14, 15, 16] [] [] (fun a => [(3, .t (.sc (.int .i64 a.2)))]) (fun a => []) (fun a => a.1 ≤ fuel ∧ m_impl_scan_word_j1 a.1 o1 a.2 = some r) ?_ ?_
 refine awp_seq (awp_region ?_)
 refine s_mv ?_
 refine s_lt ?_
 refine k_nil (k_seq ?_)
 refine w_cond hF1 ?_ ?_ <;> intro hc2 hF2
 refine awp_region ?_
 refine s_mv ?_
 refine s_nc ?_
 refine s_fa yF38_0 ?_
 refine s_ld1 yA9 ?_
 refine s_lenS yU9 ?_
 refine s_as ?_
 refine k_nil ?_
 exact s_jn (fuel, (o1.s.size : Int)) ⟨by first | omega | (dsimp only; omega), hF2⟩
 refine awp_skip ?_
 exact s_jn (fuel, v1) ⟨by first | omega | (dsimp only; omega), hF2⟩
 clear hF1
 rintro ⟨fu, g3⟩ ⟨hl4, hF2⟩
 dsimp only at hl4 hF2 ⊢
 obtain _ | fu := fu
 · rw [m_impl_scan_word_j1] at hF2; cases hF2
 rw [m_impl_scan_word_j1] at hF2
 refine awp_seq (awp_region ?_)
 refine s_mv ?_
 refine s_nc ?_
 refine s_fa yF38_0 ?_
 refine s_ld1 yA9 ?_
 refine s_mv ?_
 obtain ⟨v5, hv5, hF3⟩ := bind_some' hF2
 refine s_ss01 hv5 yU9 ?_
 refine s_as ?_
 refine k_nil (k_seq (awp_seq (awp_region ?_)))
 refine s_mv ?_
 refine s_mv ?_
 refine s_nc ?_
 refine s_fa yF38_0 ?_
 refine s_ld1 yA9 ?_
 refine s_mv ?_
 obtain ⟨v6, hv6, hF4⟩ := bind_some' hF3
 refine s_ss10 hv6 yU9 ?_
 refine s_nc ?_
 refine s_fa yF38_0 ?_
 refine s_stP yS9 ?_
 refine k_nil (k_seq (awp_seq (awp_region ?_)))
 refine s_mv ?_
 refine s_as ?_
 refine k_nil (k_seq (awp_ret (k_fin ?_)))
 cases hF4
 exact ends_a _ [] Tryz.results34
def m_impl_number_AC (fuel : Nat) : Prop := ∀ (x1 : ByteArray) (x2 : Int) (r : Int × Bool), m_impl_number fuel x1 x2 = some r → AC Tryz.prog 35 [.t (.sc (.str x1)), .t (.sc (.int .i64 x2))] noOb (.tp [.t (.sc (.int .i64 r.1)), .t (.sc (.bool r.2))]) noOb
open Go.Sort Go.RowKit in
theorem number_walk (s : ByteArray) (most : Int) (w : World) (hs : s.size ≤ 140737488355328) (ht : TabW Tryz.prog w) :
   Calls Tryz.prog 35 #[.string s, .int .i64 most] w fun e w' => e = .returned (match Lib.atoiAll s.data.toList with
     | .ok v => .tuple #[.int .i64 v, .bool ((decide ((⟨(Lib.itoa v).toArray⟩ : ByteArray) = s)) && ((decide (0 ≤ v)) && decide (v ≤ most)))]
     | .range => .tuple #[.int .i64 (Lib.atoiSat s.data.toList), .bool false]
     | _ => .tuple #[.int .i64 0, .bool false]) ∧ Below w.heap.size w w' := by
 rcases h : Lib.atoiAll s.data.toList with v | _ | _
 · obtain ⟨b1, b2⟩ := atoiAll_in h
   have cA := Tryz.strconv_Atoi_ok s (by omega) v h w
   go_enter Tryz.func35, Tryz.ntmps35
   go_wp2_with (go_at_call 56; go_fit cA; rintro e w1 ⟨rfl, hw⟩)
   have hb1 : Below w.heap.size w w1 := by
     rcases hw with rfl | ⟨t, rfl⟩
     · exact Below.refl _ _
     · exact Lib.bytesWorld_below _ _ _
   clear hw cA
   have cI := Tryz.strconv_Itoa v b1 b2 w1 ((ht.below hb1).tabIs (by kernel_rfl))
   go_fit cI
   rintro e w2 ⟨rfl, k, os, rfl⟩
   have hb2 : Below w.heap.size w (grow (w1.drewN k) os) := hb1.trans (below_grow w.heap.size hb1.size k os)
   clear cI
   go_wp2
   · rename_i h1 h2
     go_ret2
     have e1 : (⟨(Lib.itoa v).toArray⟩ : ByteArray) = s := by rw [h1, Lib.toList_data]
     exact ⟨by rw [decide_eq_true e1, decide_eq_true h2]; rfl, hb2⟩
   · rename_i h1 h2
     go_ret2
     exact ⟨by rw [decide_eq_false (show ¬ 0 ≤ v by omega), Bool.false_and, Bool.and_false]; rfl, hb2⟩
   · rename_i h1
     go_ret2
     have e1 : ¬ (⟨(Lib.itoa v).toArray⟩ : ByteArray) = s := fun e => h1 (by rw [← e, Lib.toList_data])
     exact ⟨by rw [decide_eq_false e1, Bool.false_and]; rfl, hb2⟩
 · obtain ⟨t, p, hv⟩ := ht.errSyntax (by kernel_rfl)
   have cA := Tryz.strconv_Atoi_syntax_var s (by omega) h t p w hv
   go_enter Tryz.func35, Tryz.ntmps35
   go_wp2_with (go_at_call 56; go_fit cA; rintro e w1 ⟨N, rfl, hN0, hN, hb⟩)
   go_ret2
   exact ⟨rfl, hb⟩
 · obtain ⟨t, p, hv⟩ := ht.errRange (by kernel_rfl)
   have cA := Tryz.strconv_Atoi_range_var s (by omega) h t p w hv
   go_enter Tryz.func35, Tryz.ntmps35
   go_wp2_with (go_at_call 56; go_fit cA; rintro e w1 ⟨N, rfl, hN0, hN, hb⟩)
   go_ret2
   exact ⟨rfl, hb⟩
theorem m_impl_number_ok (fuel : Nat) : m_impl_number_AC fuel := by
 intro x1 x2 r h
 obtain ⟨h0, h⟩ := chk_some h
 obtain rfl := Option.some.inj h
 have hw := fun w ht => number_walk x1 x2 w (of_decide_eq_true h0) ht
 cases h : Lib.atoiAll x1.data.toList <;> simp only [h] at hw ⊢
 all_goals exact ac_two_t (a := .str x1) (b := .int .i64 x2) [.int .i64 _, .bool _] ⟨_, Tryz.func35, by kernel_rfl, by kernel_rfl⟩ hw
def m_strings_CutPrefix_AC (fuel : Nat) : Prop := ∀ (x1 : ByteArray) (x2 : ByteArray) (r : ByteArray × Bool), m_strings_CutPrefix fuel x1 x2 = some r → AC Tryz.prog 37 [.t (.sc (.str x1)), .t (.sc (.str x2))] noOb (.tp [.t (.sc (.str r.1)), .t (.sc (.bool r.2))]) noOb
theorem m_strings_CutPrefix_ok (fuel : Nat) : m_strings_CutPrefix_AC fuel := by
 intro x1 x2 r h
 obtain rfl := Option.some.inj h
 exact ac_two_t (a := .str x1) (b := .str x2) [.str _, .bool _] ⟨_, Tryz.func37, by kernel_rfl, by kernel_rfl⟩ (fun w _ => (Tryz.strings_CutPrefix x1 x2 w).mono fun e w' ⟨h1, h2⟩ => ⟨h1, h2 ▸ Go.RowKit.Below.refl _ _⟩)
def m_strings_Cut_AC (fuel : Nat) : Prop := ∀ (x1 : ByteArray) (x2 : ByteArray) (r : ByteArray × ByteArray × Bool), m_strings_Cut fuel x1 x2 = some r → AC Tryz.prog 38 [.t (.sc (.str x1)), .t (.sc (.str x2))] noOb (.tp [.t (.sc (.str r.1)), .t (.sc (.str r.2.1)), .t (.sc (.bool r.2.2))]) noOb
theorem m_strings_Cut_ok (fuel : Nat) : m_strings_Cut_AC fuel := by
 intro x1 x2 r h
 obtain ⟨h0, h⟩ := chk_some h
 obtain rfl := Option.some.inj h
 exact ac_two_t (a := .str x1) (b := .str x2) [.str _, .str _, .bool _] ⟨_, Tryz.func38, by kernel_rfl, by kernel_rfl⟩ (fun w ht => by
   obtain ⟨z, hz⟩ := tabW_maxLen ht (g := 0) (by kernel_rfl) (by kernel_rfl)
   exact (Tryz.strings_Cut x1 x2 z w (of_decide_eq_true h0) hz).mono fun e w' ⟨h1, n, h2⟩ => ⟨h1, h2 ▸ below_drewN w n⟩)
def m_strings_Split_AC (fuel : Nat) : Prop := ∀ (x1 : ByteArray) (x2 : ByteArray) (r : (List ByteArray)), m_strings_Split fuel x1 x2 = some r → AC Tryz.prog 39 [.t (.sc (.str x1)), .t (.sc (.str x2))] noOb (.t (.sl (r.map rS))) noOb
theorem m_strings_Split_ok (fuel : Nat) : m_strings_Split_AC fuel := by
 intro x1 x2 r h
 obtain ⟨h0, h⟩ := chk_some h
 obtain ⟨h1, h⟩ := chk_some h
 obtain ⟨h2, h⟩ := chk_some h
 obtain ⟨h3, h⟩ := chk_some h
 obtain rfl := Option.some.inj h
 exact ac_split _ ⟨_, Tryz.func39, by kernel_rfl, by kernel_rfl⟩ (g := 0) (by kernel_rfl) (by kernel_rfl) (of_decide_eq_true h3) (fun w z hz => by rw [of_decide_eq_true h2]; exact Tryz.strings_Split x1 x2 z w (of_decide_eq_true h0) hz (of_decide_eq_true h1))
def m_impl_scan_form_AC (fuel : Nat) : Prop := ∀ (o1 : scan) (x2 : Int) (r : (Form × Bool × scan)), m_impl_scan_form fuel o1 x2 = some r → AC Tryz.prog 16 [.rf 9000 0, .t (.sc (.int .i64 x2))] (objs [(9000, .box [.t (.sc (.str o1.s)), .t (.sc (.bool o1.bad))])]) (.tp [.ag [.t (.sc (.int .i64 r.1.kind)), .t (.sc (.str r.1.name)), .t (.sc (.int .i64 r.1.n)), .t (.sl (r.1.scopes.map rI)), .t (.sl (r.1.kids.map Form.row))], .t (.sc (.bool r.2.1))]) (objs [(9000, .box [.t (.sc (.str r.2.2.s)), .t (.sc (.bool r.2.2.bad))])])
theorem m_impl_scan_form_st (fu : Nat) (ih_m_impl_scan_form : ∀ k, k ≤ fu → m_impl_scan_form_AC k) : m_impl_scan_form_AC (fu + 1) := by
 intro o1 x2 r hF0
 rw [m_impl_scan_form] at hF0
 refine AC_i [.ag [.t (.sc (.int .i64 r.1.kind)), .t (.sc (.str r.1.name)), .t (.sc (.int .i64 r.1.n)), .t (.sl (r.1.scopes.map rI)), .t (.sl (r.1.kids.map Form.row))], .t (.sc (.bool r.2.1))] Tryz.func16 rfl Tryz.ntmps16 ?_
 intro C hC
 refine awp_seq (awp_region ?_)
 refine s_alloc yZ26 ?_
 refine s_as ?_
 refine k_nil (k_seq (awp_seq (awp_region ?_)))
 refine s_mv ?_
 obtain ⟨v1, hv1, hF1⟩ := bind_some' hF0
 refine s_call [(9000, 9000)] [] _ _ (m_impl_scan_blanks_ok fu _ _ hv1) ?_
 refine k_nil (k_seq (awp_seq ?_))
 refine awp_jn (α := Nat × Bool) [24, 25, 26, 27, 28, 29, 30, 31, 32] [] [] (fun a => [(32, .t (.sc (.bool a.2)))]) (fun a => []) (fun a => a.1 ≤ fu ∧ m_impl_scan_form_j1 a.1 x2 v1 a.2 = some r) ?_ ?_
 refine awp_region ?_
 refine s_mv ?_
 refine s_nc ?_
 refine s_fa yF38_0 ?_
 refine s_ld1 yA9 ?_
 refine s_eqS ?_
 refine s_mv ?_
 refine w_guard _ 29 hF1 ?_ ?_ <;> intro hc2 hF2
 refine r_no rfl (r_no rfl ?_)
 refine s_pkt ?_
 refine k_nil ?_
 exact s_jn (fu, true) ⟨by first | omega | (dsimp only; omega), hF2⟩
 refine s_mv ?_
 refine s_gt ?_
 refine s_pkf ?_
 refine k_nil ?_
 exact s_jn (fu, (decide (40 < x2))) ⟨by first | omega | (dsimp only; omega), hF2⟩
 clear hF1
 rintro ⟨fu, g3⟩ ⟨hl4, hF2⟩
 dsimp only at hl4 hF2 ⊢
 obtain _ | fu := fu
 · rw [m_impl_scan_form_j1] at hF2; cases hF2
 rw [m_impl_scan_form_j1] at hF2
 refine w_cond hF2 ?_ ?_ <;> intro hc5 hF3
 refine awp_seq (awp_region ?_)
 refine s_mv ?_
 refine s_nc ?_
 refine s_fa yF38_1 ?_
 refine s_stP yS4 ?_
 refine k_nil (k_seq (awp_seq (awp_region ?_)))
 refine s_bld yZ26 yL26 ?_
 refine s_stW yS26 ?_
 refine s_as ?_
 refine k_nil (k_seq (awp_ret (k_seq_ret (k_fin ?_))))
 cases hF3
 exact ends_gen _ [] (by rw [Tryz.results16]; exact (res_agg (by conv => lhs; whnf) (by conv => lhs; whnf) yA26 yS26 rfl (res_tmp (by conv => lhs; whnf) res_nil)))
 refine awp_skip (k_seq (awp_seq (awp_seq (awp_region ?_))))
 refine s_mv ?_
 refine s_nc ?_
 refine s_fa yF38_0 ?_
 refine s_ld1 yA9 ?_
 obtain ⟨v6, hv6, hF4⟩ := bind_some' hF3
 refine s_ixS hv6 yU9 ?_
 refine s_eq ?_
 refine k_nil (k_seq ?_)
 refine w_cond hF4 ?_ ?_ <;> intro hc7 hF5
 refine awp_seq (awp_region ?_)
 refine s_mv ?_
 refine s_mv ?_
 refine s_nc ?_
 refine s_fa yF38_0 ?_
 refine s_ld1 yA9 ?_
 obtain ⟨v8, hv8, hF6⟩ := bind_some' hF5
 refine s_ss10 hv8 yU9 ?_
 refine s_nc ?_
 refine s_fa yF38_0 ?_
 refine s_stP yS9 ?_
 refine k_nil (k_seq (awp_seq (awp_region ?_)))
 refine s_bld yZ26 yL26 ?_
 refine s_alloc yZ26 ?_
 refine s_stW yS26 ?_
 refine s_as ?_
 refine k_nil (k_seq (awp_block ?_))
 refine awp_ownB 6 5040 26 [.t (.sc (.int .i64 3)), .t (.sc (.str (⟨#[]⟩ : ByteArray))), .t (.sc (.int .i64 0)), .nl, .ar 5040] yI26.choose_spec ?_
 refine awp_frame2 [5, 7, 8, 9, 52, 53, 54, 55, 56, 57, 58, 59, 60, 61, 62, 63, 64, 65, 66, 67, 68, 69, 70, 71, 72, 73, 74, 75, 76, 77, 78, 79, 80, 81, 82, 83, 84, 85, 86, 87, 88, 89, 90, 91, 92, 93, 94, 95, 96, 97, 98, 99, 100, 101, 102, 103, 104, 105, 106, 107, 108, 109, 110, 111, 112, 113, 114] [6, 5040, 9000] [8, 111, 112] [5040] (fun a : Nat × Bool × ByteArray × Bool × (List Form) => a.1) (fun a : Nat × Bool × ByteArray × Bool × (List Form) => [(7, .t (.sc (.bool a.2.1)))]) (fun a : Nat × Bool × ByteArray × Bool × (List Form) => [(6, .box [.t (.sc (.int .i64 3)), .t (.sc (.str (⟨#[]⟩ : ByteArray))), .t (.sc (.int .i64 0)), .nl, .ar 5040]), (5040, .arr (a.2.2.2.2.map Form.row) 26 true), (9000, .box [.t (.sc (.str a.2.2.1)), .t (.sc (.bool a.2.2.2.1))])]) (fun a : Nat × Bool × ByteArray × Bool × (List Form) => a.1 ≤ fu ∧ m_impl_scan_form_l2 a.1 x2 a.2.1 a.2.2.1 a.2.2.2.1 a.2.2.2.2 = some r) (fu, true, v8, v1.2.bad, ([] : List Form)) ⟨Nat.le_refl _, hF6⟩ (by rfl) (by rfl) (fun _ => rfl) (hasF_cons (by conv => lhs; whnf) (by rfl) hasF_nil) (hasO_cons (by conv => lhs; whnf) (by rfl) (hasO_cons (by conv => lhs; whnf) (by rfl) (hasO_cons (by conv => lhs; whnf) (by rfl) hasO_nil))) (fresh_C hC rfl) (by repeat (first | exact freshS_args rfl | refine freshS_upd rfl ?_ | refine freshS_frame rfl ?_)) (by repeat (first | exact freshM_no | exact objs_fresh rfl | refine freshM_upd rfl ?_ | refine freshM_frame rfl ?_)) ?_
 clear hF6
 rintro ⟨fu, g9, g10, g11, g12⟩ ⟨hl13, hF7⟩
 dsimp only at hl13 hF7 ⊢
 obtain _ | fu := fu
 · rw [m_impl_scan_form_l2] at hF7; cases hF7
 rw [m_impl_scan_form_l2] at hF7
 refine awp_block ?_
 refine awp_jn (α := Nat × Bool × ByteArray × Bool) [7, 52, 53, 54, 55, 56] [9000] [] (fun a => [(7, .t (.sc (.bool a.2.1)))]) (fun a => [(9000, .box [.t (.sc (.str a.2.2.1)), .t (.sc (.bool a.2.2.2))])]) (fun a => a.1 ≤ fu ∧ m_impl_scan_form_j3 a.1 x2 g12 a.2.1 a.2.2.1 a.2.2.2 = some r) ?_ ?_
 refine awp_region ?_
 refine s_mv ?_
 obtain ⟨v14, hv14, hF8⟩ := bind_some' hF7
 refine s_call [(9000, 9000)] [] _ _ (m_impl_scan_blanks_ok fu _ _ hv14) ?_
 refine s_mv ?_
 refine w_guard _ 54 hF8 ?_ ?_ <;> intro hc15 hF9
 refine r_no rfl ?_
 refine s_pkt ?_
 refine s_as ?_
 refine k_nil ?_
 exact s_jn (fu, true, v14.2.s, v14.2.bad) ⟨by first | omega | (dsimp only; omega), hF9⟩
 refine s_mv ?_
 refine s_pkf ?_
 refine s_as ?_
 refine k_nil ?_
 exact s_jn (fu, g9, v14.2.s, v14.2.bad) ⟨by first | omega | (dsimp only; omega), hF9⟩
 clear hF7
 rintro ⟨fu, g16, g17, g18⟩ ⟨hl19, hF8⟩
 dsimp only at hl19 hF8 ⊢
 obtain _ | fu := fu
 · rw [m_impl_scan_form_j3] at hF8; cases hF8
 rw [m_impl_scan_form_j3] at hF8
 refine awp_seq ?_
 refine awp_jn (α := Nat × Bool) [57, 58, 59, 60, 61, 62, 63, 64, 65, 66, 67] [] [] (fun a => [(67, .t (.sc (.bool a.2)))]) (fun a => []) (fun a => a.1 ≤ fu ∧ m_impl_scan_form_j4 a.1 x2 g12 g16 g17 g18 a.2 = some r) ?_ ?_
 refine awp_region ?_
 refine s_mv ?_
 refine s_nc ?_
 refine s_fa yF38_1 ?_
 refine s_ld1 yA4 ?_
 refine s_mv ?_
 refine w_guard _ 61 hF8 ?_ ?_ <;> intro hc20 hF9
 iterate 5 refine r_no rfl ?_
 refine s_pkt ?_
 refine k_nil ?_
 exact s_jn (fu, true) ⟨by first | omega | (dsimp only; omega), hF9⟩
 refine s_mv ?_
 refine s_nc ?_
 refine s_fa yF38_0 ?_
 refine s_ld1 yA9 ?_
 refine s_eqS ?_
 refine s_pkf ?_
 refine k_nil ?_
 exact s_jn (fu, (decide (g17 = (⟨#[]⟩ : ByteArray)))) ⟨by first | omega | (dsimp only; omega), hF9⟩
 clear hF8
 rintro ⟨fu, g21⟩ ⟨hl22, hF9⟩
 dsimp only at hl22 hF9 ⊢
 obtain _ | fu := fu
 · rw [m_impl_scan_form_j4] at hF9; cases hF9
 rw [m_impl_scan_form_j4] at hF9
 refine w_cond hF9 ?_ ?_ <;> intro hc23 hF10
 refine awp_seq (awp_region ?_)
 refine s_mv ?_
 refine s_nc ?_
 refine s_fa yF38_1 ?_
 refine s_stP yS4 ?_
 refine k_nil (k_seq (awp_seq (awp_region ?_)))
 refine s_bld yZ26 yL26 ?_
 refine s_stW yS26 ?_
 refine s_as ?_
 refine k_nil (k_seq (awp_ret (k_seq_ret (k_blk_ret (k_rnd_ret2 (k_blk_ret (k_seq_ret (k_fin ?_))))))))
 cases hF10
 exact ends_gen _ [] (by rw [Tryz.results16]; exact (res_agg (by conv => lhs; whnf) (by conv => lhs; whnf) yA26 yS26 rfl (res_tmp (by conv => lhs; whnf) res_nil)))
 refine awp_skip (k_seq (awp_seq (awp_seq (awp_region ?_))))
 refine s_mv ?_
 refine s_nc ?_
 refine s_fa yF38_0 ?_
 refine s_ld1 yA9 ?_
 obtain ⟨v24, hv24, hF11⟩ := bind_some' hF10
 refine s_ixS hv24 yU9 ?_
 refine s_eq ?_
 refine k_nil (k_seq ?_)
 refine w_cond hF11 ?_ ?_ <;> intro hc25 hF12
 refine awp_seq (awp_region ?_)
 refine s_mv ?_
 refine s_mv ?_
 refine s_nc ?_
 refine s_fa yF38_0 ?_
 refine s_ld1 yA9 ?_
 obtain ⟨v26, hv26, hF13⟩ := bind_some' hF12
 refine s_ss10 hv26 yU9 ?_
 refine s_nc ?_
 refine s_fa yF38_0 ?_
 refine s_stP yS9 ?_
 refine k_nil (k_seq (awp_seq (awp_region ?_)))
 refine s_ldW yA26 yS26 ?_
 refine s_stW yS26 ?_
 refine s_as ?_
 refine k_nil (k_seq (awp_ret (k_seq_ret (k_blk_ret (k_rnd_ret2 (k_blk_ret (k_seq_ret (k_fin ?_))))))))
 cases hF13
 exact ends_gen _ [5040] (by rw [Tryz.results16]; exact (res_agg (by conv => lhs; whnf) (by conv => lhs; whnf) yA26 yS26 rfl (res_tmp (by conv => lhs; whnf) res_nil)))
 refine awp_skip (k_seq (awp_seq ?_))
 refine awp_jn (α := Nat × Bool) [87, 88, 89, 90, 91, 92, 93, 94, 95, 96] [] [] (fun a => [(96, .t (.sc (.bool a.2)))]) (fun a => []) (fun a => a.1 ≤ fu ∧ m_impl_scan_form_j5 a.1 x2 g12 g17 g18 a.2 = some r) ?_ ?_
 refine awp_region ?_
 refine s_mv ?_
 refine s_not ?_
 refine s_mv ?_
 refine w_guard _ 89 hF12 ?_ ?_ <;> intro hc27 hF13
 refine s_mv ?_
 refine s_nc ?_
 refine s_fa yF38_0 ?_
 refine s_ld1 yA9 ?_
 obtain ⟨v28, hv28, hF14⟩ := bind_some' hF13
 refine s_ixS hv28 yU9 ?_
 refine s_ne ?_
 refine s_pkt ?_
 refine k_nil ?_
 exact s_jn (fu, (decide (v28 ≠ 40))) ⟨by first | omega | (dsimp only; omega), hF14⟩
 iterate 6 refine r_no rfl ?_
 refine s_pkf ?_
 refine k_nil ?_
 exact s_jn (fu, false) ⟨by first | omega | (dsimp only; omega), hF13⟩
 clear hF12
 rintro ⟨fu, g29⟩ ⟨hl30, hF13⟩
 dsimp only at hl30 hF13 ⊢
 obtain _ | fu := fu
 · rw [m_impl_scan_form_j5] at hF13; cases hF13
 rw [m_impl_scan_form_j5] at hF13
 refine w_cond hF13 ?_ ?_ <;> intro hc31 hF14
 refine awp_seq (awp_region ?_)
 refine s_mv ?_
 refine s_nc ?_
 refine s_fa yF38_1 ?_
 refine s_stP yS4 ?_
 refine k_nil (k_seq (awp_seq (awp_region ?_)))
 refine s_bld yZ26 yL26 ?_
 refine s_stW yS26 ?_
 refine s_as ?_
 refine k_nil (k_seq (awp_ret (k_seq_ret (k_blk_ret (k_rnd_ret2 (k_blk_ret (k_seq_ret (k_fin ?_))))))))
 cases hF14
 exact ends_gen _ [] (by rw [Tryz.results16]; exact (res_agg (by conv => lhs; whnf) (by conv => lhs; whnf) yA26 yS26 rfl (res_tmp (by conv => lhs; whnf) res_nil)))
 refine awp_skip (k_seq (awp_seq (awp_region ?_)))
 refine s_mv ?_
 refine s_mv ?_
 refine s_add rfl ?_
 obtain ⟨v32, hv32, hF15⟩ := bind_some' hF14
 refine s_call [(9000, 9000)] [] _ _ (ih_m_impl_scan_form fu (by omega) _ _ _ hv32) ?_
 refine s_mv ?_
 refine s_ext ?_
 refine s_ext ?_
 refine s_alloc yZ26 ?_
 refine s_stW yS26 ?_
 refine s_as ?_
 refine k_nil (k_seq (awp_seq (awp_region ?_)))
 refine s_fa yF26_4 ?_
 refine s_ld1 yA24 ?_
 refine s_ldW yA26 yS26 ?_
 refine s_bs Form.row [v32.1] yP24 yR26 ?_
 obtain ⟨hk33, hF16⟩ := chk_some hF15
 refine s_apT Form.row (fun y => Form.row_len y) hk33 yP24 ?_
 refine s_fa yF26_4 ?_
 refine s_stP yS24 ?_
 refine k_nil (k_seq (awp_region ?_))
 refine s_mv ?_
 refine s_as ?_
 refine k_nil (k_blk ?_)
 exact s_rn (fu, v32.2.1, v32.2.2.s, v32.2.2.bad, (g12 ++ [v32.1])) ⟨by first | omega | (dsimp only; omega), hF16⟩ [(5040, 112)]
 refine awp_skip (k_seq (awp_seq (awp_region ?_)))
 refine s_mv ?_
 obtain ⟨v34, hv34, hF6⟩ := bind_some' hF5
 refine s_call [(9000, 9000)] [] _ _ (m_impl_scan_word_ok fu _ _ hv34) ?_
 refine s_as ?_
 refine k_nil (k_seq (awp_seq (awp_seq (awp_region ?_))))
 refine s_mv ?_
 obtain ⟨v35, hv35, hF7⟩ := bind_some' hF6
 refine s_pure [] (m_impl_number_ok fu _ _ _ hv35) ?_
 refine s_mv ?_
 refine s_ext ?_
 refine s_ext ?_
 refine s_as ?_
 refine s_as ?_
 refine k_nil (k_seq (awp_seq (awp_region ?_)))
 refine s_mv ?_
 refine k_nil (k_seq ?_)
 refine w_cond hF7 ?_ ?_ <;> intro hc36 hF8
 refine awp_seq (awp_region ?_)
 refine s_mv ?_
 refine s_bld yZ26 yL26 ?_
 refine s_stW yS26 ?_
 refine s_as ?_
 refine k_nil (k_seq (awp_ret (k_seq_ret (k_fin ?_))))
 cases hF8
 exact ends_gen _ [] (by rw [Tryz.results16]; exact (res_agg (by conv => lhs; whnf) (by conv => lhs; whnf) yA26 yS26 rfl (res_tmp (by conv => lhs; whnf) res_nil)))
 refine awp_skip (k_seq (awp_seq (awp_region ?_)))
 refine s_mv ?_
 refine s_bld yZ26 yL26 ?_
 refine s_alloc yZ26 ?_
 refine s_stW yS26 ?_
 refine k_nil (k_seq (awp_seq (awp_seq (awp_region ?_))))
 refine s_mv ?_
 obtain ⟨v37, hv37, hF9⟩ := bind_some' hF8
 refine s_pure [] (m_impl_NameValid_ok fu _ _ hv37) ?_
 refine s_not ?_
 refine k_nil (k_seq ?_)
 refine w_cond hF9 ?_ ?_ <;> intro hc38 hF10
 refine awp_seq (awp_region ?_)
 refine s_mv ?_
 refine s_nc ?_
 refine s_fa yF38_1 ?_
 refine s_stP yS4 ?_
 refine k_nil (k_seq (awp_seq (awp_region ?_)))
 refine s_bld yZ26 yL26 ?_
 refine s_stW yS26 ?_
 refine s_as ?_
 refine k_nil (k_seq (awp_ret (k_seq_ret (k_fin ?_))))
 cases hF10
 exact ends_gen _ [] (by rw [Tryz.results16]; exact (res_agg (by conv => lhs; whnf) (by conv => lhs; whnf) yA26 yS26 rfl (res_tmp (by conv => lhs; whnf) res_nil)))
 refine awp_skip (k_seq (awp_seq (awp_region ?_)))
 refine s_mv ?_
 refine s_nc ?_
 refine s_fa yF38_0 ?_
 refine s_ld1 yA9 ?_
 obtain ⟨v39, hv39, hF11⟩ := bind_some' hF10
 refine s_pure [] (m_strings_CutPrefix_ok fu _ _ _ hv39) ?_
 refine s_mv ?_
 refine s_ext ?_
 refine s_ext ?_
 refine s_as ?_
 refine s_as ?_
 refine k_nil (k_seq (awp_seq (awp_seq (awp_region ?_))))
 refine s_mv ?_
 refine s_not ?_
 refine k_nil (k_seq ?_)
 refine w_cond hF11 ?_ ?_ <;> intro hc40 hF12
 refine awp_seq (awp_region ?_)
 refine s_ldW yA26 yS26 ?_
 refine s_stW yS26 ?_
 refine s_as ?_
 refine k_nil (k_seq (awp_ret (k_seq_ret (k_fin ?_))))
 cases hF12
 exact ends_gen _ [] (by rw [Tryz.results16]; exact (res_agg (by conv => lhs; whnf) (by conv => lhs; whnf) yA26 yS26 rfl (res_tmp (by conv => lhs; whnf) res_nil)))
 refine awp_skip (k_seq (awp_seq (awp_region ?_)))
 refine s_mv ?_
 obtain ⟨v41, hv41, hF13⟩ := bind_some' hF12
 refine s_pure [] (m_strings_Cut_ok fu _ _ _ hv41) ?_
 refine s_mv ?_
 iterate 3 refine s_ext ?_
 iterate 3 refine s_as ?_
 refine k_nil (k_seq ?_)
 refine awp_jn (α := Nat × Bool) [151, 152, 153, 154, 155, 156, 157, 158, 159, 160, 161] [9000] [] (fun a => []) (fun a => [(9000, .box [.t (.sc (.str v34.2.s)), .t (.sc (.bool a.2))])]) (fun a => a.1 ≤ fu ∧ m_impl_scan_form_j6 a.1 v34 v41 a.2 = some r) ?_ ?_
 refine awp_region ?_
 refine s_mv ?_
 refine s_mv ?_
 refine s_nc ?_
 refine s_fa yF38_1 ?_
 refine s_ld1 yA4 ?_
 refine s_mv ?_
 refine w_guard _ 156 hF13 ?_ ?_ <;> intro hc42 hF14
 refine r_no rfl (r_no rfl ?_)
 refine s_pkt ?_
 refine s_nc ?_
 refine s_fa yF38_1 ?_
 refine s_stP yS4 ?_
 refine k_nil ?_
 exact s_jn (fu, true) ⟨by first | omega | (dsimp only; omega), hF14⟩
 refine s_mv ?_
 refine s_not ?_
 refine s_pkf ?_
 refine s_nc ?_
 refine s_fa yF38_1 ?_
 refine s_stP yS4 ?_
 refine k_nil ?_
 exact s_jn (fu, (!v41.2.2)) ⟨by first | omega | (dsimp only; omega), hF14⟩
 clear hF13
 rintro ⟨fu, g43⟩ ⟨hl44, hF14⟩
 dsimp only at hl44 hF14 ⊢
 obtain _ | fu := fu
 · rw [m_impl_scan_form_j6] at hF14; cases hF14
 rw [m_impl_scan_form_j6] at hF14
 refine awp_seq (awp_region ?_)
 refine s_mv ?_
 refine s_mv ?_
 refine s_nc ?_
 refine s_fa yF38_0 ?_
 refine s_stP yS9 ?_
 refine k_nil (k_seq (awp_seq (awp_seq (awp_region ?_))))
 refine s_mv ?_
 obtain ⟨v45, hv45, hF15⟩ := bind_some' hF14
 refine s_pure [] (m_strings_Split_ok fu _ _ _ hv45) ?_
 refine s_lenT yU52 ?_
 refine s_mv ?_
 refine k_nil (k_seq (awp_block ?_))
 refine awp_ownB 13 5140 3 [.t (.sc (.int .i64 1)), .t (.sc (.str v34.1)), .t (.sc (.int .i64 0)), .ar 5140, .nl] yI3.choose_spec ?_
 refine awp_frame2 [19, 20, 21, 169, 170, 171, 172, 173, 174, 175, 176, 177, 178, 179, 180, 181, 182, 183, 184, 185, 186, 187, 188, 189, 190, 191, 192, 193, 194, 195] [13, 5140, 9000] [192, 193] [5140] (fun a : Nat × Int × Bool × (List Int) => a.1) (fun a : Nat × Int × Bool × (List Int) => [(169, .t (.sc (.int .i64 a.2.1)))]) (fun a : Nat × Int × Bool × (List Int) => [(13, .box [.t (.sc (.int .i64 1)), .t (.sc (.str v34.1)), .t (.sc (.int .i64 0)), .ar 5140, .nl]), (5140, .arr (a.2.2.2.map rI) 3 true), (9000, .box [.t (.sc (.str v41.2.1)), .t (.sc (.bool a.2.2.1))])]) (fun a : Nat × Int × Bool × (List Int) => a.1 ≤ fu ∧ m_impl_scan_form_l7 a.1 v34 v41 v45 a.2.1 a.2.2.1 a.2.2.2 = some r ∧ 0 ≤ a.2.1) (fu, 0, g43, ([] : List Int)) ⟨Nat.le_refl _, hF15, by simp⟩ (by rfl) (by rfl) (fun _ => rfl) (hasF_cons (by conv => lhs; whnf) (by rfl) hasF_nil) (hasO_cons (by conv => lhs; whnf) (by rfl) (hasO_cons (by conv => lhs; whnf) (by rfl) (hasO_cons (by conv => lhs; whnf) (by rfl) hasO_nil))) (fresh_C hC rfl) (by repeat (first | exact freshS_args rfl | refine freshS_upd rfl ?_ | refine freshS_frame rfl ?_)) (by repeat (first | exact freshM_no | exact objs_fresh rfl | refine freshM_upd rfl ?_ | refine freshM_frame rfl ?_)) ?_
 clear hF15
 rintro ⟨fu, g46, g47, g48⟩ ⟨hl49, hF16, hn_g46⟩
 dsimp only at hl49 hF16 hn_g46 ⊢
 obtain _ | fu := fu
 · rw [m_impl_scan_form_l7] at hF16; cases hF16
 rw [m_impl_scan_form_l7] at hF16
 refine awp_seq (awp_region ?_)
 refine s_lt ?_
 refine k_nil (k_seq (awp_seq ?_))
 refine w_cond hF16 ?_ ?_ <;> intro hc50 hF17
 refine awp_lenT 167 (fun hb51 => ?_)
 refine awp_skip (k_seq (awp_seq (awp_block (awp_seq (awp_region ?_)))))
 obtain ⟨v52, hv52, hF18⟩ := bind_some' hF17
 refine s_ixT rS hv52 rfl yE52 ?_
 refine s_ld1 yA9 ?_
 refine s_as ?_
 refine k_nil (k_seq (awp_seq (awp_region ?_)))
 refine s_mv ?_
 obtain ⟨v53, hv53, hF19⟩ := bind_some' hF18
 refine s_pure [] (m_impl_number_ok fu _ _ _ hv53) ?_
 refine s_mv ?_
 refine s_ext ?_
 refine s_ext ?_
 refine s_as ?_
 refine s_as ?_
 refine k_nil (k_seq ?_)
 refine awp_jn (α := Nat × Bool) [178, 179, 180, 181, 182, 183, 184, 185, 186, 187, 188] [9000] [] (fun a => []) (fun a => [(9000, .box [.t (.sc (.str v41.2.1)), .t (.sc (.bool a.2))])]) (fun a => a.1 ≤ fu ∧ m_impl_scan_form_j8 a.1 v34 v41 v45 g46 g48 v53 a.2 = some r) ?_ ?_
 refine awp_region ?_
 refine s_mv ?_
 refine s_mv ?_
 refine s_nc ?_
 refine s_fa yF38_1 ?_
 refine s_ld1 yA4 ?_
 refine s_mv ?_
 refine w_guard _ 183 hF19 ?_ ?_ <;> intro hc54 hF20
 refine r_no rfl (r_no rfl ?_)
 refine s_pkt ?_
 refine s_nc ?_
 refine s_fa yF38_1 ?_
 refine s_stP yS4 ?_
 refine k_nil ?_
 exact s_jn (fu, true) ⟨by first | omega | (dsimp only; omega), hF20⟩
 refine s_mv ?_
 refine s_not ?_
 refine s_pkf ?_
 refine s_nc ?_
 refine s_fa yF38_1 ?_
 refine s_stP yS4 ?_
 refine k_nil ?_
 exact s_jn (fu, (!v53.2)) ⟨by first | omega | (dsimp only; omega), hF20⟩
 clear hF19
 rintro ⟨fu, g55⟩ ⟨hl56, hF20⟩
 dsimp only at hl56 hF20 ⊢
 obtain _ | fu := fu
 · rw [m_impl_scan_form_j8] at hF20; cases hF20
 rw [m_impl_scan_form_j8] at hF20
 refine awp_region ?_
 refine s_fa yF26_3 ?_
 refine s_ld1 yA23 ?_
 refine s_mv ?_
 refine s_bs rI [v53.1] yP23 yR3 ?_
 obtain ⟨hk57, hF21⟩ := chk_some hF20
 refine s_apT rI (fun _ => rfl) hk57 yP23 ?_
 refine s_fa yF26_3 ?_
 refine s_stP yS23 ?_
 refine k_nil (k_blk (k_seq (awp_region ?_)))
 refine s_add (winc2 hc50 hb51 hn_g46) ?_
 refine s_mv ?_
 refine k_nil ?_
 exact s_rn (fu, (g46 + 1), g55, (g48 ++ [v53.1])) ⟨by first | omega | (dsimp only; omega), hF21, by first | omega | (dsimp only; omega)⟩ [(5140, 193)]
 refine awp_exit (k_seq_exit (k_rnd_exit2 (k_blk_exit (k_seq (awp_seq (awp_region ?_))))))
 refine s_ldW yA26 yS26 ?_
 refine s_stW yS26 ?_
 refine s_as ?_
 refine k_nil (k_seq (awp_ret (k_fin ?_)))
 cases hF17
 exact ends_gen _ [5140] (by rw [Tryz.results16]; exact (res_agg (by conv => lhs; whnf) (by conv => lhs; whnf) yA26 yS26 rfl (res_tmp (by conv => lhs; whnf) res_nil)))
theorem m_impl_scan_form_all (fuel : Nat) : m_impl_scan_form_AC fuel := by
 induction fuel using Nat.strongRecOn with
 | _ N ih =>
   cases N with
   | zero => exact (by intro o1 x2 r h; rw [m_impl_scan_form] at h; cases h)
   | succ fu => exact m_impl_scan_form_st fu (fun k hk => (ih k (by omega)))
theorem m_impl_scan_form_ok (fuel : Nat) : m_impl_scan_form_AC fuel := (m_impl_scan_form_all fuel)
def m_impl_ParseForm_AC (fuel : Nat) : Prop := ∀ (x1 : ByteArray) (r : (Form × Bool)), m_impl_ParseForm fuel x1 = some r → AC Tryz.prog 7 [.t (.sc (.str x1))] noOb (.tp [.ag [.t (.sc (.int .i64 r.1.kind)), .t (.sc (.str r.1.name)), .t (.sc (.int .i64 r.1.n)), .t (.sl (r.1.scopes.map rI)), .t (.sl (r.1.kids.map Form.row))], .t (.sc (.bool r.2))]) noOb
theorem m_impl_ParseForm_ok (fuel : Nat) : m_impl_ParseForm_AC fuel := by
 intro x1 r hF0
 unfold m_impl_ParseForm at hF0
 refine AC_i [.ag [.t (.sc (.int .i64 r.1.kind)), .t (.sc (.str r.1.name)), .t (.sc (.int .i64 r.1.n)), .t (.sl (r.1.scopes.map rI)), .t (.sl (r.1.kids.map Form.row))], .t (.sc (.bool r.2))] Tryz.func7 rfl Tryz.ntmps7 ?_
 intro C hC
 refine awp_seq (awp_region ?_)
 refine s_alloc yZ26 ?_
 refine s_as ?_
 refine k_nil (k_seq (awp_seq (awp_region ?_)))
 refine s_mv ?_
 refine s_bld yZ38 yL38 ?_
 refine s_box ?_
 refine s_as ?_
 refine k_nil (k_seq (awp_seq (awp_region ?_)))
 refine s_mv ?_
 obtain ⟨v1, hv1, hF1⟩ := bind_some' hF0
 refine s_call [(9000, 9)] [] _ _ (m_impl_scan_form_ok fuel _ _ _ hv1) ?_
 refine s_mv ?_
 refine s_ext ?_
 refine s_ext ?_
 refine s_alloc yZ26 ?_
 refine s_stW yS26 ?_
 refine s_as ?_
 refine k_nil (k_seq (awp_seq (awp_region ?_)))
 refine s_mv ?_
 obtain ⟨v2, hv2, hF2⟩ := bind_some' hF1
 refine s_call [(9000, 9)] [] _ _ (m_impl_scan_blanks_ok fuel _ _ hv2) ?_
 refine k_nil (k_seq (awp_seq (awp_seq (awp_region ?_))))
 refine s_mv ?_
 refine s_nc ?_
 refine s_fa yF38_1 ?_
 refine s_ld1 yA4 ?_
 refine s_mv ?_
 refine w_guard _ 21 hF2 ?_ ?_ <;> intro hc3 hF3
 iterate 5 refine r_no rfl ?_
 refine s_pkt ?_
 refine s_mv ?_
 iterate 3 refine r_no rfl ?_
 refine s_pkt ?_
 refine k_nil (k_seq (awp_true rfl (awp_seq (awp_region ?_))))
 refine s_bld yZ26 yL26 ?_
 refine s_stW yS26 ?_
 refine s_as ?_
 refine k_nil (k_seq (awp_ret (k_seq_ret (k_fin ?_))))
 cases hF3
 exact ends_gen [] [] (by rw [Tryz.results7]; exact (res_agg (by conv => lhs; whnf) (by conv => lhs; whnf) yA26 yS26 rfl (res_tmp (by conv => lhs; whnf) res_nil)))
 refine s_mv ?_
 refine s_nc ?_
 refine s_fa yF38_0 ?_
 refine s_ld1 yA9 ?_
 refine s_neS ?_
 refine s_pkf ?_
 refine s_mv ?_
 refine w_guard _ 28 hF3 ?_ ?_ <;> intro hc4 hF4
 iterate 3 refine r_no rfl ?_
 refine s_pkt ?_
 refine k_nil (k_seq (awp_true rfl (awp_seq (awp_region ?_))))
 refine s_bld yZ26 yL26 ?_
 refine s_stW yS26 ?_
 refine s_as ?_
 refine k_nil (k_seq (awp_ret (k_seq_ret (k_fin ?_))))
 cases hF4
 exact ends_gen [] [] (by rw [Tryz.results7]; exact (res_agg (by conv => lhs; whnf) (by conv => lhs; whnf) yA26 yS26 rfl (res_tmp (by conv => lhs; whnf) res_nil)))
 refine s_ldW yA26 yS26 ?_
 obtain ⟨v5, hv5, hF5⟩ := bind_some' hF4
 refine s_pure [] (m_impl_FormValid_ok fuel _ _ hv5) ?_
 refine s_not ?_
 refine s_pkf ?_
 refine k_nil (k_seq ?_)
 refine w_cond hF5 ?_ ?_ <;> intro hc6 hF6
 refine awp_seq (awp_region ?_)
 refine s_bld yZ26 yL26 ?_
 refine s_stW yS26 ?_
 refine s_as ?_
 refine k_nil (k_seq (awp_ret (k_seq_ret (k_fin ?_))))
 cases hF6
 exact ends_gen [] [] (by rw [Tryz.results7]; exact (res_agg (by conv => lhs; whnf) (by conv => lhs; whnf) yA26 yS26 rfl (res_tmp (by conv => lhs; whnf) res_nil)))
 refine awp_skip (k_seq (awp_seq (awp_region ?_)))
 refine s_ldW yA26 yS26 ?_
 refine s_stW yS26 ?_
 refine s_as ?_
 refine k_nil (k_seq (awp_ret (k_fin ?_)))
 cases hF6
 exact ends_gen [] [] (by rw [Tryz.results7]; exact (res_agg (by conv => lhs; whnf) (by conv => lhs; whnf) yA26 yS26 rfl (res_tmp (by conv => lhs; whnf) res_nil)))
end Go.Abs
