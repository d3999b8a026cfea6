/- For every input, the law FnNameValid of the given program returns true, and its arguments read afterwards as they read before. Conditions: none beyond those of the given row. -/
import Derived.Test.YtpmhanibecniaaaDoorRows
import Derived.Test.YtpmhanibecniaaaDoorTie
import Derived.Test.YtpmhanibecniaaaDoorCards
import Derived.Test.YtpmhanibecniaaaDoorKdab11da657b4
import Derived.Test.YtpmhanibecniaaaDoorKc085e7c79ad3
import Derived.KernelRfl
set_option linter.unusedSimpArgs false
set_option linter.unusedVariables false
namespace Go.Proofs.YtpmhanibecniaaaDoor.fnNameValid
open Go.ChangeShapes Go.WideShapes Go.ChangeAt Go.RowKit
open Go.ChangeMaps (open_string shut_string)
open Go.Abs
set_option linter.unusedVariables false
theorem yU22 : Tryd.prog.underlying 22 = some (.slice 5) := by kernel_rfl
theorem yU5 : Tryd.prog.underlying 5 = some (.int .u8) := by kernel_rfl
theorem yS5 : szOf Tryd.prog 5 = some 1 := by kernel_rfl
theorem yU4 : Tryd.prog.underlying 4 = some .bool := by kernel_rfl
theorem own : ownKnob Tryd.prog.godebug = none := by kernel_rfl
theorem laidOut : laidOutB Tryd.prog = true := by kernel_rfl
abbrev laidL : List (String × DataW Unit) := [("math/bits.deBruijn32tab", Rows.laid_math_bits_deBruijn32tab), ("math/bits.deBruijn64tab", Rows.laid_math_bits_deBruijn64tab), ("internal/strconv.uint64pow10", Rows.laid_internal_strconv_uint64pow10), ("unicode/utf8.acceptRanges", Rows.laid_unicode_utf8_acceptRanges), ("strconv.ErrRange", Rows.laid_strconv_ErrRange), ("strconv.ErrSyntax", Rows.laid_strconv_ErrSyntax), ("unicode/utf8.first", Rows.laid_unicode_utf8_first)]
theorem star : "*" ++ "errors.errorString" = "*errors.errorString" := by decide
theorem row_err (u : TypeId) (h : Tryd.prog.typeName? 3 u = some "*errors.errorString") : u = 131 :=
  typeName_ptr_named (nm := "errors.errorString") (by rw [star]; kernel_rfl) (by kernel_rfl) (by decide) u (by rw [star]; exact h)
theorem laid_tab {W : World} (h : laidMetH Tryd.prog laidL W) (hs : W.ShapedOpen Tryd.prog) : TabW Tryd.prog W := by
  rw [MakeChecks.laidMetH_plain _ _ _ (by kernel_rfl)] at h
  have htab : Lib.TabIs Tryd.prog W "internal/strconv.uint64pow10" .u64 Lib.pow10Tab := Lib.tabIs_of_head (k := .u64) (zs := Lib.pow10Tab) (g := 5) (t := 135) (e := 110) (n := 20) (by kernel_rfl) (by kernel_rfl) (by kernel_rfl) (by kernel_rfl) (by kernel_rfl) (by kernel_rfl) (laidMet.tail1 (laidMet.tail1 (h)))
  obtain ⟨a_hES, _, hES, _⟩ := laid_sentinel (g := 1) (ti := 75) (laidMet.tail1 (laidMet.tail1 (laidMet.tail1 (laidMet.tail1 (laidMet.tail1 (h)))))) (by kernel_rfl) (by kernel_rfl) Tryd.underlying75 row_err Tryd.underlying131 Tryd.underlying133 rfl rfl Tryd.underlying9 (by kernel_rfl) (by kernel_rfl)
  obtain ⟨a_hER, _, hER, _⟩ := laid_sentinel (g := 2) (ti := 75) (laidMet.tail1 (laidMet.tail1 (laidMet.tail1 (laidMet.tail1 (h))))) (by kernel_rfl) (by kernel_rfl) Tryd.underlying75 row_err Tryd.underlying131 Tryd.underlying133 rfl rfl Tryd.underlying9 (by kernel_rfl) (by kernel_rfl)
  obtain ⟨z, hML⟩ := Go.Proofs.cell_of_shapedOpen_int (P := Tryd.prog) (g := 0) (zero := #[.int .i64 0]) (t := 3) hs (of_decide_eq_true (by kernel_rfl)) (by kernel_rfl) rfl (by kernel_rfl) (by kernel_rfl) Tryd.underlying3
  refine TabW.of fun p hp hg ha => ?_
  simp only [libTabs, List.mem_cons, List.not_mem_nil, or_false] at hp
  rcases hp with rfl | rfl | rfl | rfl | rfl
  · exact ⟨_, htab, rfl⟩
  · exact var_of_cell (g := 0) (by kernel_rfl) hML
  · exact ⟨_, hES, _, _, rfl⟩
  · exact ⟨_, hER, _, _, rfl⟩
  · exact absurd ha (by rw [show Tryd.prog.globalNamed "loop.example/macroexpander/impl.coreForms" = none by kernel_rfl]; simp)
set_option maxRecDepth 100000 in
theorem lifted (os : Os) (started : os.Started) (H : Type) (enc : TypeId × Value → H) :
    ReturnsInHanded {} Tryd.checked os 3 .any (fun w args => (Rows.fnNameValidSpec.pre enc Tryd.prog Tryd.f3 [] false w args ∧ laidMetH Tryd.prog laidL w) ∧ sizedMet enc Tryd.prog Tryd.f3 (OpenSpec.ofChange Rows.fnNameValidSpec) false w args) (Rows.fnNameValidSpec.post enc Tryd.prog Tryd.f3 false true false false) := by
  refine handed_and_shaped (C := Tryd.checked) (X := fun w _ => laidMetH Tryd.prog laidL w) (fun _ _ _ hh h => h.of_heap hh) own started (by kernel_rfl) Tryd.func3
    (ChangeSpec.witness_shaped (enc := enc) (C := Tryd.checked) (os := os) (X := fun w _ => laidMetH Tryd.prog laidL w) false (World.laidAll Tryd.prog os laidL) #[.slice none 0 0] 8 (World.laidAll_os _ _ _) (World.shaped_of_ZipB (by kernel_rfl) (by kernel_rfl)) (by kernel_rfl) (by kernel_rfl) (by kernel_rfl) (by rw [MakeChecks.laidMetH_plain _ _ _ (by kernel_rfl)]; exact laidMet_laidAll _ (by kernel_rfl) (by kernel_rfl))) ?_
  intro W base args ds gs before hval0 hW hcnd hsz0 hL hSh
  have hsz : (DataW.weightsEach Tryd.prog (Tryd.f3.params.toList ++ Rows.fnNameValidSpec.plain.varTypes Tryd.prog) (ds ++ gs)).all (· ≤ reachBytes) = true := hsz0
  have hval : ∀ (j : Nat) t v, Tryd.f3.params[j]? = some t → args[j]? = some v → Value.okWide Tryd.prog W .any base t v := hval0
  have hW' := hW
  obtain ⟨p, q, hA0, hV, rfl, hfz, hnd⟩ := hW
  have hA : DataW.TrodAll enc Tryd.prog W 0 (fun _ => true) true Tryd.f3.params.toList args.toList ds p := hA0
  rw [Tryd.params3] at hA hval hsz
  obtain ⟨v0, vs0, d0, ds0, p0, q0, hargs, rfl, rfl, h0, r0⟩ := trodAll_cons hA
  obtain ⟨rfl, rfl, rfl⟩ := trodAll_nil r0
  obtain rfl : args = #[v0] := by cases args; simp_all
  obtain ⟨rfl, rfl⟩ := trodVars_none hV
  obtain ⟨b0, len0, cap0, rfl⟩ := okWide_slice yU22 (hval 0 22 v0 rfl rfl)
  have k0 := h0
  have lt0 : ∀ x ∈ p0, x.block < W.heap.size := by obtain ⟨m, hm⟩ := k0; exact DataW.trod_lt m _ _ _ hm
  obtain ⟨fuel0, g0⟩ := h0
  obtain ⟨a0, z0, q0, i0, o0⟩ := trod_bs yU22 yU5 yS5 g0
  obtain rfl : .slice b0 len0 cap0 = z0 := by simpa [Value.cells] using q0
  clear hA0 hval0 hsz0 hsz
  refine (AC.law (w := W) (laid_tab hL hSh) (FnNameValid_ac a0 (bytes_ok o0)) (xs := [_]) (by simp only [V.IsL]; exact ⟨_, _, rfl, by rw [V.Is]; exact i0, rfl⟩)).mono fun e W' ⟨he, bel⟩ => ?_
  subst he
  exact ⟨_, rfl, _, _, _, [], _, [], hW', trodAll_mk1 (shut_bool yU4 _), (trodAll_cons_mk (Below.trod laidOut (by kernel_rfl) (of_decide_eq_true (by kernel_rfl)) k0 bel lt0) trodAll_mk0), rfl, bel.frame _, fun h => by cases h⟩
theorem q1 : Tryd.prog.inPlace 3 = Rows.fnNameValidRow.inPlace := by kernel_rfl
theorem q2 : Tryd.prog.unfollowed 3 = Rows.fnNameValidRow.unfollowed := by kernel_rfl
theorem q3 : Tryd.prog.recurses 3 = Rows.fnNameValidRow.recurses := by kernel_rfl
theorem q4 : Tryd.prog.varsNamed 3 = Rows.fnNameValidRow.named := by kernel_rfl
theorem q5 : Tryd.prog.liftsFinal = Rows.fnNameValidRow.lifted := by kernel_rfl
theorem q6 : Tryd.prog.mayEnter = true := by kernel_rfl
theorem q7 : Tryd.prog.make = some Rows.fnNameValidRow.make := by kernel_rfl
theorem closed : joinedFacts Tryd.prog 3 Tryd.f3 Rows.fnNameValidSpec Rows.fnNameValidRow = true := by
  unfold joinedFacts
  rw [q1, q2, q3, q4, q5, q6, q7]
  kernel_rfl
theorem over : Rows.fnNameValidRow.holds Tryd.pinned (OpenSpec.ofChange Rows.fnNameValidSpec) :=
  OpenClaim.holds_of_wide 3 Tryd.f3 rfl rfl rfl rfl rfl rfl rfl ⟨rfl, rfl, rfl, rfl, rfl⟩ rfl rfl rfl rfl rfl (by kernel_rfl) Tryd.func3 closed
    (of_decide_eq_true (by kernel_rfl)) (by unfold Func.isWrapper; first | (rw [if_pos (by decide +kernel)]; kernel_rfl) | (rw [if_neg (by decide +kernel)]; exact ⟨rfl, rfl⟩))
    (fun os started H enc _ => lifted os started H enc)
theorem card : Rows.FnNameValidCardSaid :=
  Claim7.holds_tied_plain_at .later [] [.data, .data, .data, .data, .sentinel, .sentinel, .pinned] true (true, "fc085a90e2345f9cdb4f74fd113509357e74ee9011b8d0c8dae05d8871c4c199") true
    over (fun _ h => by cases h) (by kernel_rfl) (fun _ h => by cases h) fnNameValid_row_tie rfl ⟨rfl, rfl⟩ (by kernel_rfl) rfl
    (fun f fn hf hfn => by
      obtain rfl : f = 3 := Option.some.inj ((show Tryd.prog.funcNamed "loop.example/macroexpander/laws.FnNameValid" = some 3 by kernel_rfl).symm.trans hf) |>.symm
      obtain rfl : fn = Tryd.f3 := (Option.some.inj (Tryd.func3.symm.trans hfn)).symm
      exact ⟨by kernel_rfl, fun j t ht => by
        rw [Tryd.params3] at ht
        have hm : t ∈ [22] := by simpa using Array.mem_of_getElem? ht
        have hall : ([22].all fun u => !Tryd.prog.wantsStandIn u) = true := by kernel_rfl
        exact (show Tryd.prog.wantsStandIn t = false by simpa using List.all_eq_true.1 hall t hm)⟩)
    (by kernel_rfl)
end Go.Proofs.YtpmhanibecniaaaDoor.fnNameValid
namespace Go.Proofs.YtpmhanibecniaaaDoor
/-- The card, under a short name, for the claim. -/
theorem fnNameValid_holds : Rows.FnNameValidCardSaid := fnNameValid.card
#print axioms fnNameValid_holds
end Go.Proofs.YtpmhanibecniaaaDoor
