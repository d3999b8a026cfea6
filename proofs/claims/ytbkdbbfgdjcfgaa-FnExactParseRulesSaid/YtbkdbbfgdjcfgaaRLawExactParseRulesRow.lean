/- For every input, the law FnExactParseRules of the given program returns true, and its arguments read afterwards as they read before. Conditions: none beyond those of the given row. -/
import Derived.Test.YtbkdbbfgdjcfgaaRows
import Derived.Test.YtbkdbbfgdjcfgaaK4302a99c611a
import Derived.Test.YtbkdbbfgdjcfgaaK48dd86509e32
import Derived.KernelRfl
set_option linter.unusedSimpArgs false
set_option linter.unusedVariables false
namespace Go.Proofs.Ytbkdbbfgdjcfgaa.fnExactParseRules
open Go.ChangeShapes Go.WideShapes Go.ChangeAt Go.RowKit
open Go.ChangeMaps (open_string shut_string)
open Go.Abs
set_option linter.unusedVariables false
theorem yA25 : aggOf Try.prog 25 = some true := by kernel_rfl
theorem yU4 : Try.prog.underlying 4 = some .bool := by kernel_rfl
theorem own : ownKnob Try.prog.godebug = none := by kernel_rfl
theorem laidOut : laidOutB Try.prog = true := by kernel_rfl
set_option maxRecDepth 100000 in
theorem lifted (os : Os) (started : os.Started) (H : Type) (enc : TypeId × Value → H) :
    ReturnsInHanded {} Try.checked os 9 .any (Rows.fnExactParseRulesSpec.pre6 enc Try.prog Try.f9 Rows.fnExactParseRulesRow.domain false) (Rows.fnExactParseRulesSpec.post enc Try.prog Try.f9 false true false false) := by
  refine returnsInHanded_of_change_sized (C := Try.checked) own started (by kernel_rfl) Try.func9
    (ChangeSpec.witness6 (enc := enc) (C := Try.checked) false ⟨#[], #[.agg #[.int .i64 0, .string ByteArray.empty, .int .i64 0, .slice none 0 0, .slice none 0 0]], []⟩ 8 (by kernel_rfl) (by kernel_rfl) (by kernel_rfl) (by kernel_rfl)) ?_
  intro W base args ds gs before hval0 hW hcnd hsz0 _
  have hsz : (DataW.weightsEach Try.prog (Try.f9.params.toList ++ Rows.fnExactParseRulesSpec.plain.varTypes Try.prog) (ds ++ gs)).all (· ≤ reachBytes) = true := hsz0
  have hval : ∀ (j : Nat) t v, Try.f9.params[j]? = some t → args[j]? = some v → Value.okWide Try.prog W .any base t v := hval0
  have hW' := hW
  obtain ⟨p, q, hA0, hV, rfl, hfz, hnd⟩ := hW
  have hA : DataW.TrodAll enc Try.prog W 0 (fun _ => true) true Try.f9.params.toList args.toList ds p := hA0
  rw [Try.params9] at hA hval hsz
  obtain ⟨v0, vs0, d0, ds0, p0, q0, hargs, rfl, rfl, h0, r0⟩ := trodAll_cons hA
  obtain ⟨rfl, rfl, rfl⟩ := trodAll_nil r0
  obtain rfl : args = #[v0] := by cases args; simp_all
  obtain ⟨rfl, rfl⟩ := trodVars_none hV
  obtain ⟨x0, rfl⟩ := okWide_agg yA25 (hval 0 25 v0 rfl rfl)
  have k0 := h0
  have lt0 : ∀ x ∈ p0, x.block < W.heap.size := by obtain ⟨m, hm⟩ := k0; exact DataW.trod_lt m _ _ _ hm
  obtain ⟨fuel0, g0⟩ := h0
  obtain ⟨a0, i0, o0, l0⟩ := read_Form _ _ _ g0
  clear hA0 hval0 hsz0 hsz
  refine (AC.law (w := W) (TabW.none (by kernel_rfl)) (FnExactParseRules_ac a0 o0) (xs := [_]) (by simp only [V.IsL]; exact ⟨_, _, rfl, by rw [V.Is]; exact ⟨x0, rfl, row_isL i0 (by rw [Form.row_len]; exact l0)⟩, rfl⟩)).mono fun e W' ⟨he, bel⟩ => ?_
  subst he
  exact ⟨_, rfl, _, _, _, [], _, [], hW', trodAll_mk1 (shut_bool yU4 _), (trodAll_cons_mk (Below.trod laidOut (by kernel_rfl) (of_decide_eq_true (by kernel_rfl)) k0 bel lt0) trodAll_mk0), rfl, bel.frame _, fun h => by cases h⟩
theorem q1 : Try.prog.inPlace 9 = Rows.fnExactParseRulesRow.inPlace := by kernel_rfl
theorem q2 : Try.prog.unfollowed 9 = Rows.fnExactParseRulesRow.unfollowed := by kernel_rfl
theorem q3 : Try.prog.recurses 9 = Rows.fnExactParseRulesRow.recurses := by kernel_rfl
theorem q4 : Try.prog.varsNamed 9 = Rows.fnExactParseRulesRow.named := by kernel_rfl
theorem q5 : Try.prog.liftsFinal = Rows.fnExactParseRulesRow.lifted := by kernel_rfl
theorem q6 : Try.prog.mayEnter = true := by kernel_rfl
theorem q7 : Try.prog.make = some Rows.fnExactParseRulesRow.make := by kernel_rfl
theorem closed : joinedFacts Try.prog 9 Try.f9 Rows.fnExactParseRulesSpec Rows.fnExactParseRulesRow = true := by
  unfold joinedFacts
  rw [q1, q2, q3, q4, q5, q6, q7]
  kernel_rfl
theorem over : Rows.fnExactParseRulesRow.holds Try.pinned (OpenSpec.ofChange Rows.fnExactParseRulesSpec) :=
  OpenClaim.holds_of_wide 9 Try.f9 rfl rfl rfl rfl rfl rfl rfl ⟨rfl, rfl, rfl, rfl, rfl⟩ rfl rfl rfl rfl rfl (by kernel_rfl) Try.func9 closed
    (of_decide_eq_true (by kernel_rfl)) (by unfold Func.isWrapper; first | (rw [if_pos (by decide +kernel)]; kernel_rfl) | (rw [if_neg (by decide +kernel)]; exact ⟨rfl, rfl⟩))
    (fun os started H enc _ => lifted os started H enc)
theorem proved : Rows.FnExactParseRulesSaid := over
end Go.Proofs.Ytbkdbbfgdjcfgaa.fnExactParseRules
namespace Go.Proofs.Ytbkdbbfgdjcfgaa
/-- The row, under a short name, for the claim. -/
theorem fnExactParseRules_holds : Rows.FnExactParseRulesSaid := fnExactParseRules.proved
#print axioms fnExactParseRules_holds
end Go.Proofs.Ytbkdbbfgdjcfgaa
