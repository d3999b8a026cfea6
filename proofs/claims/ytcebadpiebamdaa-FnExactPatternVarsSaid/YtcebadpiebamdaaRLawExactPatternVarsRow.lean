/- For every input, the law FnExactPatternVars of the given program returns true, and its arguments read afterwards as they read before. Conditions: none beyond those of the given row. -/
import Derived.Test.YtcebadpiebamdaaRows
import Derived.Test.YtcebadpiebamdaaK59898afc67cc
import Derived.Test.YtcebadpiebamdaaK2107fe72f0f6
import Derived.KernelRfl
set_option linter.unusedSimpArgs false
set_option linter.unusedVariables false
namespace Go.Proofs.Ytcebadpiebamdaa.fnExactPatternVars
open Go.ChangeShapes Go.WideShapes Go.ChangeAt Go.RowKit
open Go.ChangeMaps (open_string shut_string)
open Go.Abs
set_option linter.unusedVariables false
theorem yA25 : aggOf Try.prog 25 = some true := by kernel_rfl
theorem yU23 : Try.prog.underlying 23 = some (.slice 25) := by kernel_rfl
theorem yS25 : szOf Try.prog 25 = some 5 := by kernel_rfl
theorem yU4 : Try.prog.underlying 4 = some .bool := by kernel_rfl
theorem own : ownKnob Try.prog.godebug = none := by kernel_rfl
theorem laidOut : laidOutB Try.prog = true := by kernel_rfl
set_option maxRecDepth 100000 in
theorem lifted (os : Os) (started : os.Started) (H : Type) (enc : TypeId × Value → H) :
    ReturnsInHanded {} Try.checked os 3 .any (Rows.fnExactPatternVarsSpec.pre6 enc Try.prog Try.f3 Rows.fnExactPatternVarsRow.domain false) (Rows.fnExactPatternVarsSpec.post enc Try.prog Try.f3 false true false false) := by
  refine returnsInHanded_of_change_sized (C := Try.checked) own started (by kernel_rfl) Try.func3
    (ChangeSpec.witness6 (enc := enc) (C := Try.checked) false ⟨#[], #[.agg #[.int .i64 0, .string ByteArray.empty, .int .i64 0, .slice none 0 0, .slice none 0 0], .slice none 0 0], []⟩ 8 (by kernel_rfl) (by kernel_rfl) (by kernel_rfl) (by kernel_rfl)) ?_
  intro W base args ds gs before hval0 hW hcnd hsz0 _
  have hsz : (DataW.weightsEach Try.prog (Try.f3.params.toList ++ Rows.fnExactPatternVarsSpec.plain.varTypes Try.prog) (ds ++ gs)).all (· ≤ reachBytes) = true := hsz0
  have hval : ∀ (j : Nat) t v, Try.f3.params[j]? = some t → args[j]? = some v → Value.okWide Try.prog W .any base t v := hval0
  have hW' := hW
  obtain ⟨p, q, hA0, hV, rfl, hfz, hnd⟩ := hW
  have hA : DataW.TrodAll enc Try.prog W 0 (fun _ => true) true Try.f3.params.toList args.toList ds p := hA0
  rw [Try.params3] at hA hval hsz
  obtain ⟨v0, vs0, d0, ds0, p0, q0, hargs, rfl, rfl, h0, r0⟩ := trodAll_cons hA
  obtain ⟨v1, vs1, d1, ds1, p1, q1, rfl, rfl, rfl, h1, r1⟩ := trodAll_cons r0
  obtain ⟨rfl, rfl, rfl⟩ := trodAll_nil r1
  obtain rfl : args = #[v0, v1] := by cases args; simp_all
  obtain ⟨rfl, rfl⟩ := trodVars_none hV
  obtain ⟨x0, rfl⟩ := okWide_agg yA25 (hval 0 25 v0 rfl rfl)
  have k0 := h0
  have lt0 : ∀ x ∈ p0, x.block < W.heap.size := by obtain ⟨m, hm⟩ := k0; exact DataW.trod_lt m _ _ _ hm
  obtain ⟨fuel0, g0⟩ := h0
  obtain ⟨a0, i0, o0, l0⟩ := read_Form _ _ _ g0
  obtain ⟨b1, len1, cap1, rfl⟩ := okWide_slice yU23 (hval 1 23 v1 rfl rfl)
  have k1 := h1
  have lt1 : ∀ x ∈ p1, x.block < W.heap.size := by obtain ⟨m, hm⟩ := k1; exact DataW.trod_lt m _ _ _ hm
  obtain ⟨fuel1, g1⟩ := h1
  obtain ⟨a1, z1, q1, i1, o1⟩ := trod_l Form.row (sz := 4) yU23 yS25 (fun n cs' y hn hh => by
    obtain ⟨f, a1, a2, _⟩ := read_Form n cs' y hh
    exact ⟨f, a1, Form.row_len f, a2⟩) g1
  obtain rfl : .slice b1 len1 cap1 = z1 := by simpa [Value.cells] using q1
  clear hA0 hval0 hsz0 hsz
  refine (AC.law (w := W) (TabW.none (by kernel_rfl)) (FnExactPatternVars_ac a0 a1 o0 o1) (xs := [_, _]) (by simp only [V.IsL]; exact ⟨_, _, rfl, by rw [V.Is]; exact ⟨x0, rfl, row_isL i0 (by rw [Form.row_len]; exact l0)⟩, ⟨_, _, rfl, by rw [V.Is]; exact i1, rfl⟩⟩)).mono fun e W' ⟨he, bel⟩ => ?_
  subst he
  exact ⟨_, rfl, _, _, _, [], _, [], hW', trodAll_mk1 (shut_bool yU4 _), (trodAll_cons_mk (Below.trod laidOut (by kernel_rfl) (of_decide_eq_true (by kernel_rfl)) k0 bel lt0) (trodAll_cons_mk (Below.trod laidOut (by kernel_rfl) (of_decide_eq_true (by kernel_rfl)) k1 bel lt1) trodAll_mk0)), rfl, bel.frame _, fun h => by cases h⟩
theorem q1 : Try.prog.inPlace 3 = Rows.fnExactPatternVarsRow.inPlace := by kernel_rfl
theorem q2 : Try.prog.unfollowed 3 = Rows.fnExactPatternVarsRow.unfollowed := by kernel_rfl
theorem q3 : Try.prog.recurses 3 = Rows.fnExactPatternVarsRow.recurses := by kernel_rfl
theorem q4 : Try.prog.varsNamed 3 = Rows.fnExactPatternVarsRow.named := by kernel_rfl
theorem q5 : Try.prog.liftsFinal = Rows.fnExactPatternVarsRow.lifted := by kernel_rfl
theorem q6 : Try.prog.mayEnter = true := by kernel_rfl
theorem q7 : Try.prog.make = some Rows.fnExactPatternVarsRow.make := by kernel_rfl
theorem closed : joinedFacts Try.prog 3 Try.f3 Rows.fnExactPatternVarsSpec Rows.fnExactPatternVarsRow = true := by
  unfold joinedFacts
  rw [q1, q2, q3, q4, q5, q6, q7]
  kernel_rfl
theorem over : Rows.fnExactPatternVarsRow.holds Try.pinned (OpenSpec.ofChange Rows.fnExactPatternVarsSpec) :=
  OpenClaim.holds_of_wide 3 Try.f3 rfl rfl rfl rfl rfl rfl rfl ⟨rfl, rfl, rfl, rfl, rfl⟩ rfl rfl rfl rfl rfl (by kernel_rfl) Try.func3 closed
    (of_decide_eq_true (by kernel_rfl)) (by unfold Func.isWrapper; first | (rw [if_pos (by decide +kernel)]; kernel_rfl) | (rw [if_neg (by decide +kernel)]; exact ⟨rfl, rfl⟩))
    (fun os started H enc _ => lifted os started H enc)
theorem proved : Rows.FnExactPatternVarsSaid := over
end Go.Proofs.Ytcebadpiebamdaa.fnExactPatternVars
namespace Go.Proofs.Ytcebadpiebamdaa
/-- The row, under a short name, for the claim. -/
theorem fnExactPatternVars_holds : Rows.FnExactPatternVarsSaid := fnExactPatternVars.proved
#print axioms fnExactPatternVars_holds
end Go.Proofs.Ytcebadpiebamdaa
