/- For every input, the law FnExactStartExpansion of the given program returns true, and its arguments read afterwards as they read before. Conditions: none beyond those of the given row. -/
import Derived.Test.YtjmfepncipfenaaDoorRows
import Derived.Test.YtjmfepncipfenaaDoorTie
import Derived.Test.YtjmfepncipfenaaDoorCards
import Derived.Test.YtjmfepncipfenaaDoorKdee7e3c45896
import Derived.Test.YtjmfepncipfenaaDoorK99ec50059018
import Derived.OpenVars
import Derived.ChangeVars
import Derived.KernelRfl
set_option linter.unusedSimpArgs false
set_option linter.unusedVariables false
namespace Go.Proofs.YtjmfepncipfenaaDoor.fnExactStartExpansion
open Go.ChangeShapes Go.WideShapes Go.ChangeAt Go.RowKit
open Go.ChangeMaps (open_string shut_string)
open Go.Abs
set_option linter.unusedVariables false
theorem yU4 : Tryd.prog.underlying 4 = some .bool := by kernel_rfl
theorem own : ownKnob Tryd.prog.godebug = none := by kernel_rfl
theorem laidOut : laidOutB Tryd.prog = true := by kernel_rfl
abbrev laidL : List (String × DataW Unit) := [("loop.example/macroexpander/impl.coreForms", Rows.laid_loop_example_macroexpander_impl_coreForms)]
theorem laid_tab {W : World} (h : laidMetH Tryd.prog laidL W) (hs : W.ShapedOpen Tryd.prog) : TabW Tryd.prog W := by
  rw [MakeChecks.laidMetH_plain _ _ _ (by kernel_rfl)] at h
  have hCF := laid_texts (g := 0) (t := 35) (e := 9) (n := 5) (P := Tryd.prog) [[108, 97, 109, 98, 100, 97], [105, 102], [113, 117, 111, 116, 101], [108, 101, 116], [108, 101, 116, 45, 115, 121, 110, 116, 97, 120]] (by kernel_rfl) (by kernel_rfl) (by kernel_rfl) (by kernel_rfl) (by kernel_rfl) (by kernel_rfl) (h)
  refine TabW.of fun p hp hg ha => ?_
  simp only [libTabs, List.mem_cons, List.not_mem_nil, or_false] at hp
  rcases hp with rfl | rfl | rfl | rfl | rfl
  · exact absurd ha (by rw [show Tryd.prog.globalNamed "internal/strconv.uint64pow10" = none by kernel_rfl]; simp)
  · exact absurd ha (by rw [show Tryd.prog.globalNamed "strconv.ErrSyntax" = none by kernel_rfl]; simp)
  · exact absurd ha (by rw [show Tryd.prog.globalNamed "strconv.ErrSyntax" = none by kernel_rfl]; simp)
  · exact absurd ha (by rw [show Tryd.prog.globalNamed "strconv.ErrRange" = none by kernel_rfl]; simp)
  · exact ⟨_, hCF, rfl⟩
set_option maxRecDepth 100000 in
theorem lifted (os : Os) (started : os.Started) (H : Type) (enc : TypeId × Value → H) :
    ReturnsInHanded {} Tryd.checked os 3 .any (fun w args => (Rows.fnExactStartExpansionSpec.pre enc Tryd.prog Tryd.f3 [] false w args ∧ laidMetH Tryd.prog laidL w) ∧ sizedMet enc Tryd.prog Tryd.f3 (OpenSpec.ofChange Rows.fnExactStartExpansionSpec) false w args) (Rows.fnExactStartExpansionSpec.post enc Tryd.prog Tryd.f3 false true false false) := by
  refine handed_and_shaped (C := Tryd.checked) (X := fun w _ => laidMetH Tryd.prog laidL w) (fun _ _ _ hh h => h.of_heap hh) own started (by kernel_rfl) Tryd.func3
    (ChangeSpec.witness_shaped (enc := enc) (C := Tryd.checked) (os := os) (X := fun w _ => laidMetH Tryd.prog laidL w) false (World.laidAll Tryd.prog os laidL) #[] 8 (World.laidAll_os _ _ _) (World.shaped_of_ZipB (by kernel_rfl) (by kernel_rfl)) (by kernel_rfl) (by kernel_rfl) (by kernel_rfl) (by rw [MakeChecks.laidMetH_plain _ _ _ (by kernel_rfl)]; exact laidMet_laidAll _ (by kernel_rfl) (by kernel_rfl))) ?_
  intro W base args ds gs before hval0 hW hcnd hsz0 hL hSh
  have hsz : (DataW.weightsEach Tryd.prog (Tryd.f3.params.toList ++ Rows.fnExactStartExpansionSpec.plain.varTypes Tryd.prog) (ds ++ gs)).all (· ≤ reachBytes) = true := hsz0
  have hval : ∀ (j : Nat) t v, Tryd.f3.params[j]? = some t → args[j]? = some v → Value.okWide Tryd.prog W .any base t v := hval0
  have hW' := hW
  obtain ⟨p, q, hA0, hV, rfl, hfz, hnd⟩ := hW
  have hA : DataW.TrodAll enc Tryd.prog W 0 (fun _ => true) true Tryd.f3.params.toList args.toList ds p := hA0
  rw [Tryd.params3] at hA hval hsz
  obtain ⟨hargs, rfl, rfl⟩ := trodAll_nil hA
  obtain rfl : args = #[] := by cases args; simp_all
  obtain ⟨g_, t_, cs_, fu_, dd_, p_, rfl, _⟩ := trodVars_one hV
  clear hA0 hval0 hsz0 hsz
  refine (AC.law (w := W) (laid_tab hL hSh) (FnExactStartExpansion_ac  ) (xs := []) (by simp only [V.IsL])).mono fun e W' ⟨he, bel⟩ => ?_
  subst he
  exact ⟨_, rfl, _, _, _, [], [], q, hW', trodAll_mk1 (shut_bool yU4 _), trodAll_mk0, bel.trodVars laidOut (by kernel_rfl) hV, bel.frame _, fun h => by cases h⟩
theorem q1 : Tryd.prog.inPlace 3 = Rows.fnExactStartExpansionRow.inPlace := by kernel_rfl
theorem q2 : Tryd.prog.unfollowed 3 = Rows.fnExactStartExpansionRow.unfollowed := by kernel_rfl
theorem q3 : Tryd.prog.recurses 3 = Rows.fnExactStartExpansionRow.recurses := by kernel_rfl
theorem q4 : Tryd.prog.varsNamed 3 = Rows.fnExactStartExpansionRow.named := by kernel_rfl
theorem q5 : Tryd.prog.liftsFinal = Rows.fnExactStartExpansionRow.lifted := by kernel_rfl
theorem q6 : Tryd.prog.mayEnter = true := by kernel_rfl
theorem q7 : Tryd.prog.make = some Rows.fnExactStartExpansionRow.make := by kernel_rfl
theorem closed : joinedFacts Tryd.prog 3 Tryd.f3 Rows.fnExactStartExpansionSpec Rows.fnExactStartExpansionRow = true := by
  unfold joinedFacts
  rw [q1, q2, q3, q4, q5, q6, q7]
  kernel_rfl
theorem over : Rows.fnExactStartExpansionRow.holds Tryd.pinned (OpenSpec.ofChange Rows.fnExactStartExpansionSpec) :=
  OpenClaim.holds_of_wide 3 Tryd.f3 rfl rfl rfl rfl rfl rfl rfl ⟨rfl, rfl, rfl, rfl, rfl⟩ rfl rfl rfl rfl rfl (by kernel_rfl) Tryd.func3 closed
    (of_decide_eq_true (by kernel_rfl)) (by unfold Func.isWrapper; first | (rw [if_pos (by decide +kernel)]; kernel_rfl) | (rw [if_neg (by decide +kernel)]; exact ⟨rfl, rfl⟩))
    (fun os started H enc _ => lifted os started H enc)
theorem card : Rows.FnExactStartExpansionCardSaid :=
  Claim7.holds_tied_plain_at .later [] [.widerDeep] true (true, "11ca97cf5e36c002fee72b9d5cdacd61d1ef4419054d041307732634c1357758") false
    over (fun _ h => by cases h) (by kernel_rfl) (fun _ h => by cases h) fnExactStartExpansion_row_tie rfl ⟨rfl, rfl⟩ (by kernel_rfl) rfl
    (fun f fn hf hfn => by
      obtain rfl : f = 3 := Option.some.inj ((show Tryd.prog.funcNamed "loop.example/macroexpander/laws.FnExactStartExpansion" = some 3 by kernel_rfl).symm.trans hf) |>.symm
      obtain rfl : fn = Tryd.f3 := (Option.some.inj (Tryd.func3.symm.trans hfn)).symm
      exact ⟨by kernel_rfl, fun j t ht => by
        rw [Tryd.params3] at ht
        simp at ht⟩)
    (by kernel_rfl)
end Go.Proofs.YtjmfepncipfenaaDoor.fnExactStartExpansion
namespace Go.Proofs.YtjmfepncipfenaaDoor
/-- The card, under a short name, for the claim. -/
theorem fnExactStartExpansion_holds : Rows.FnExactStartExpansionCardSaid := fnExactStartExpansion.card
#print axioms fnExactStartExpansion_holds
end Go.Proofs.YtjmfepncipfenaaDoor
