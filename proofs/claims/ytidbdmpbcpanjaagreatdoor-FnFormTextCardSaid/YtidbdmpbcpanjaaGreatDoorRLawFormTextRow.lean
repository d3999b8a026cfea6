/- For every input, the law FnFormText of the given program returns true, and its arguments read afterwards as they read before. Conditions: none beyond those of the given row. -/
import Derived.Test.YtidbdmpbcpanjaaGreatDoorRows
import Derived.Test.YtidbdmpbcpanjaaGreatDoorTie
import Derived.Test.YtidbdmpbcpanjaaGreatDoorCards
import Derived.Test.YtidbdmpbcpanjaaGreatDoorKbcca73c407e2
import Derived.Test.YtidbdmpbcpanjaaGreatDoorK3e151100524b
import Derived.KernelRfl
set_option linter.unusedSimpArgs false
set_option linter.unusedVariables false
namespace Go.Proofs.YtidbdmpbcpanjaaGreatDoor.fnFormText
open Go.ChangeShapes Go.WideShapes Go.ChangeAt Go.RowKit
open Go.ChangeMaps (open_string shut_string)
open Go.Abs
set_option linter.unusedVariables false
theorem yU22 : Tryz.prog.underlying 22 = some (.slice 5) := by kernel_rfl
theorem yU5 : Tryz.prog.underlying 5 = some (.int .u8) := by kernel_rfl
theorem yS5 : szOf Tryz.prog 5 = some 1 := by kernel_rfl
theorem yU4 : Tryz.prog.underlying 4 = some .bool := by kernel_rfl
theorem own : ownKnob Tryz.prog.godebug = none := by kernel_rfl
theorem laidOut : laidOutB Tryz.prog = true := by kernel_rfl
abbrev laidL : List (String × DataW Unit) := [("math/bits.deBruijn32tab", Rows.laid_math_bits_deBruijn32tab), ("math/bits.deBruijn64tab", Rows.laid_math_bits_deBruijn64tab), ("internal/strconv.uint64pow10", Rows.laid_internal_strconv_uint64pow10), ("unicode/utf8.acceptRanges", Rows.laid_unicode_utf8_acceptRanges), ("strconv.ErrRange", Rows.laid_strconv_ErrRange), ("strconv.ErrSyntax", Rows.laid_strconv_ErrSyntax), ("unicode/utf8.first", Rows.laid_unicode_utf8_first)]
theorem star : "*" ++ "errors.errorString" = "*errors.errorString" := by decide
theorem row_err (u : TypeId) (h : Tryz.prog.typeName? 3 u = some "*errors.errorString") : u = 150 :=
  typeName_ptr_named (nm := "errors.errorString") (by rw [star]; kernel_rfl) (by kernel_rfl) (by decide) u (by rw [star]; exact h)
theorem laid_tab {W : World} (h : laidMetH Tryz.prog laidL W) (hs : W.ShapedOpen Tryz.prog) : TabW Tryz.prog W := by
  rw [MakeChecks.laidMetH_plain _ _ _ (by kernel_rfl)] at h
  have htab : Lib.TabIs Tryz.prog W "internal/strconv.uint64pow10" .u64 Lib.pow10Tab := Lib.tabIs_of_head (k := .u64) (zs := Lib.pow10Tab) (g := 1) (t := 132) (e := 114) (n := 20) (by kernel_rfl) (by kernel_rfl) (by kernel_rfl) (by kernel_rfl) (by kernel_rfl) (by kernel_rfl) (laidMet.tail1 (laidMet.tail1 (h)))
  obtain ⟨a_hES, _, hES, _⟩ := laid_sentinel (g := 2) (ti := 84) (laidMet.tail1 (laidMet.tail1 (laidMet.tail1 (laidMet.tail1 (laidMet.tail1 (h)))))) (by kernel_rfl) (by kernel_rfl) Tryz.underlying84 row_err Tryz.underlying150 Tryz.underlying152 rfl rfl Tryz.underlying9 (by kernel_rfl) (by kernel_rfl)
  obtain ⟨a_hER, _, hER, _⟩ := laid_sentinel (g := 3) (ti := 84) (laidMet.tail1 (laidMet.tail1 (laidMet.tail1 (laidMet.tail1 (h))))) (by kernel_rfl) (by kernel_rfl) Tryz.underlying84 row_err Tryz.underlying150 Tryz.underlying152 rfl rfl Tryz.underlying9 (by kernel_rfl) (by kernel_rfl)
  obtain ⟨z, hML⟩ := Go.Proofs.cell_of_shapedOpen_int (P := Tryz.prog) (g := 0) (zero := #[.int .i64 0]) (t := 3) hs (of_decide_eq_true (by kernel_rfl)) (by kernel_rfl) rfl (by kernel_rfl) (by kernel_rfl) Tryz.underlying3
  refine TabW.of fun p hp hg ha => ?_
  simp only [libTabs, List.mem_cons, List.not_mem_nil, or_false] at hp
  rcases hp with rfl | rfl | rfl | rfl | rfl
  · exact ⟨_, htab, rfl⟩
  · exact var_of_cell (g := 0) (by kernel_rfl) hML
  · exact ⟨_, hES, _, _, rfl⟩
  · exact ⟨_, hER, _, _, rfl⟩
  · exact absurd ha (by rw [show Tryz.prog.globalNamed "loop.example/macroexpander/impl.coreForms" = none by kernel_rfl]; simp)
set_option maxRecDepth 100000 in
theorem lifted (os : Os) (started : os.Started) (H : Type) (enc : TypeId × Value → H) :
    ReturnsInHanded {} Tryz.checked os 3 .any (fun w args => (Rows.fnFormTextSpec.pre enc Tryz.prog Tryz.f3 [] false w args ∧ laidMetH Tryz.prog laidL w) ∧ sizedMet enc Tryz.prog Tryz.f3 (OpenSpec.ofChange Rows.fnFormTextSpec) false w args) (Rows.fnFormTextSpec.post enc Tryz.prog Tryz.f3 false true false false) := by
  refine handed_and_shaped (C := Tryz.checked) (X := fun w _ => laidMetH Tryz.prog laidL w) (fun _ _ _ hh h => h.of_heap hh) own started (by kernel_rfl) Tryz.func3
    (ChangeSpec.witness_shaped (enc := enc) (C := Tryz.checked) (os := os) (X := fun w _ => laidMetH Tryz.prog laidL w) false (World.laidAll Tryz.prog os laidL) #[.slice none 0 0, .slice none 0 0] 8 (World.laidAll_os _ _ _) (World.shaped_of_ZipB (by kernel_rfl) (by kernel_rfl)) (by kernel_rfl) (by kernel_rfl) (by kernel_rfl) (by rw [MakeChecks.laidMetH_plain _ _ _ (by kernel_rfl)]; exact laidMet_laidAll _ (by kernel_rfl) (by kernel_rfl))) ?_
  intro W base args ds gs before hval0 hW hcnd hsz0 hL hSh
  have hsz : (DataW.weightsEach Tryz.prog (Tryz.f3.params.toList ++ Rows.fnFormTextSpec.plain.varTypes Tryz.prog) (ds ++ gs)).all (· ≤ reachBytes) = true := hsz0
  have hval : ∀ (j : Nat) t v, Tryz.f3.params[j]? = some t → args[j]? = some v → Value.okWide Tryz.prog W .any base t v := hval0
  have hW' := hW
  obtain ⟨p, q, hA0, hV, rfl, hfz, hnd⟩ := hW
  have hA : DataW.TrodAll enc Tryz.prog W 0 (fun _ => true) true Tryz.f3.params.toList args.toList ds p := hA0
  rw [Tryz.params3] at hA hval hsz
  obtain ⟨v0, vs0, d0, ds0, p0, q0, hargs, rfl, rfl, h0, r0⟩ := trodAll_cons hA
  obtain ⟨v1, vs1, d1, ds1, p1, q1, rfl, rfl, rfl, h1, r1⟩ := trodAll_cons r0
  obtain ⟨rfl, rfl, rfl⟩ := trodAll_nil r1
  obtain rfl : args = #[v0, v1] := by cases args; simp_all
  obtain ⟨rfl, rfl⟩ := trodVars_none hV
  obtain ⟨b0, len0, cap0, rfl⟩ := okWide_slice yU22 (hval 0 22 v0 rfl rfl)
  have k0 := h0
  have lt0 : ∀ x ∈ p0, x.block < W.heap.size := by obtain ⟨m, hm⟩ := k0; exact DataW.trod_lt m _ _ _ hm
  obtain ⟨fuel0, g0⟩ := h0
  obtain ⟨a0, z0, q0, i0, o0⟩ := trod_bs yU22 yU5 yS5 g0
  obtain rfl : .slice b0 len0 cap0 = z0 := by simpa [Value.cells] using q0
  obtain ⟨b1, len1, cap1, rfl⟩ := okWide_slice yU22 (hval 1 22 v1 rfl rfl)
  have k1 := h1
  have lt1 : ∀ x ∈ p1, x.block < W.heap.size := by obtain ⟨m, hm⟩ := k1; exact DataW.trod_lt m _ _ _ hm
  obtain ⟨fuel1, g1⟩ := h1
  obtain ⟨a1, z1, q1, i1, o1⟩ := trod_bs yU22 yU5 yS5 g1
  obtain rfl : .slice b1 len1 cap1 = z1 := by simpa [Value.cells] using q1
  clear hA0 hval0 hsz0 hsz
  refine (AC.law (w := W) (laid_tab hL hSh) (FnFormText_ac a0 a1 (bytes_ok o0) (bytes_ok o1)) (xs := [_, _]) (by simp only [V.IsL]; exact ⟨_, _, rfl, by rw [V.Is]; exact i0, ⟨_, _, rfl, by rw [V.Is]; exact i1, rfl⟩⟩)).mono fun e W' ⟨he, bel⟩ => ?_
  subst he
  exact ⟨_, rfl, _, _, _, [], _, [], hW', trodAll_mk1 (shut_bool yU4 _), (trodAll_cons_mk (Below.trod laidOut (by kernel_rfl) (of_decide_eq_true (by kernel_rfl)) k0 bel lt0) (trodAll_cons_mk (Below.trod laidOut (by kernel_rfl) (of_decide_eq_true (by kernel_rfl)) k1 bel lt1) trodAll_mk0)), rfl, bel.frame _, fun h => by cases h⟩
theorem q1 : Tryz.prog.inPlace 3 = Rows.fnFormTextRow.inPlace := by kernel_rfl
theorem q2 : Tryz.prog.unfollowed 3 = Rows.fnFormTextRow.unfollowed := by kernel_rfl
theorem q3 : Tryz.prog.recurses 3 = Rows.fnFormTextRow.recurses := by kernel_rfl
theorem q4 : Tryz.prog.varsNamed 3 = Rows.fnFormTextRow.named := by kernel_rfl
theorem q5 : Tryz.prog.liftsFinal = Rows.fnFormTextRow.lifted := by kernel_rfl
theorem q6 : Tryz.prog.mayEnter = true := by kernel_rfl
theorem q7 : Tryz.prog.make = some Rows.fnFormTextRow.make := by kernel_rfl
theorem closed : joinedFacts Tryz.prog 3 Tryz.f3 Rows.fnFormTextSpec Rows.fnFormTextRow = true := by
  unfold joinedFacts
  rw [q1, q2, q3, q4, q5, q6, q7]
  kernel_rfl
theorem over : Rows.fnFormTextRow.holds Tryz.pinned (OpenSpec.ofChange Rows.fnFormTextSpec) :=
  OpenClaim.holds_of_wide 3 Tryz.f3 rfl rfl rfl rfl rfl rfl rfl ⟨rfl, rfl, rfl, rfl, rfl⟩ rfl rfl rfl rfl rfl (by kernel_rfl) Tryz.func3 closed
    (of_decide_eq_true (by kernel_rfl)) (by unfold Func.isWrapper; first | (rw [if_pos (by decide +kernel)]; kernel_rfl) | (rw [if_neg (by decide +kernel)]; exact ⟨rfl, rfl⟩))
    (fun os started H enc _ => lifted os started H enc)
theorem card : Rows.FnFormTextCardSaid :=
  Claim7.holds_tied_plain_at .later [] [.data, .data, .data, .data, .sentinel, .sentinel, .pinned] true (true, "622e17c692d904266d7ec71a2fe656e0735aef85e094d0f8cefec1be57ce60f7") true
    over (fun _ h => by cases h) (by kernel_rfl) (fun _ h => by cases h) fnFormText_row_tie rfl ⟨rfl, rfl⟩ (by kernel_rfl) rfl
    (fun f fn hf hfn => by
      obtain rfl : f = 3 := Option.some.inj ((show Tryz.prog.funcNamed "loop.example/macroexpander/laws.FnFormText" = some 3 by kernel_rfl).symm.trans hf) |>.symm
      obtain rfl : fn = Tryz.f3 := (Option.some.inj (Tryz.func3.symm.trans hfn)).symm
      exact ⟨by kernel_rfl, fun j t ht => by
        rw [Tryz.params3] at ht
        have hm : t ∈ [22, 22] := by simpa using Array.mem_of_getElem? ht
        have hall : ([22, 22].all fun u => !Tryz.prog.wantsStandIn u) = true := by kernel_rfl
        exact (show Tryz.prog.wantsStandIn t = false by simpa using List.all_eq_true.1 hall t hm)⟩)
    (by kernel_rfl)
end Go.Proofs.YtidbdmpbcpanjaaGreatDoor.fnFormText
namespace Go.Proofs.YtidbdmpbcpanjaaGreatDoor
/-- The card, under a short name, for the claim. -/
theorem fnFormText_holds : Rows.FnFormTextCardSaid := fnFormText.card
#print axioms fnFormText_holds
end Go.Proofs.YtidbdmpbcpanjaaGreatDoor
