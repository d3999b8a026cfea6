/- For every input, the law FnExactFillTemplate of the given program returns true, and its arguments read afterwards as they read before. Conditions: none beyond those of the given row. -/
import Derived.Test.YtbkdbbfgdjcfgaaRows
import Derived.Test.YtbkdbbfgdjcfgaaKd48ba50dd646
import Derived.Test.YtbkdbbfgdjcfgaaKda055a135141
import Derived.KernelRfl
set_option linter.unusedSimpArgs false
set_option linter.unusedVariables false
namespace Go.Proofs.Ytbkdbbfgdjcfgaa.fnExactFillTemplate
open Go.ChangeShapes Go.WideShapes Go.ChangeAt Go.RowKit
open Go.ChangeMaps (open_string shut_string)
open Go.Abs
set_option linter.unusedVariables false
theorem yA25 : aggOf Try.prog 25 = some true := by kernel_rfl
theorem yU58 : Try.prog.underlying 58 = some (.slice 60) := by kernel_rfl
theorem yS60 : szOf Try.prog 60 = some 12 := by kernel_rfl
theorem yU4 : Try.prog.underlying 4 = some .bool := by kernel_rfl
theorem own : ownKnob Try.prog.godebug = none := by kernel_rfl
theorem laidOut : laidOutB Try.prog = true := by kernel_rfl
set_option maxRecDepth 100000 in
theorem lifted (os : Os) (started : os.Started) (H : Type) (enc : TypeId × Value → H) :
    ReturnsInHanded {} Try.checked os 10 .any (Rows.fnExactFillTemplateSpec.pre6 enc Try.prog Try.f10 Rows.fnExactFillTemplateRow.domain false) (Rows.fnExactFillTemplateSpec.post enc Try.prog Try.f10 false true false false) := by
  refine returnsInHanded_of_change_sized (C := Try.checked) own started (by kernel_rfl) Try.func10
    (ChangeSpec.witness6 (enc := enc) (C := Try.checked) false ⟨#[], #[.agg #[.int .i64 0, .string ByteArray.empty, .int .i64 0, .slice none 0 0, .slice none 0 0], .slice none 0 0], []⟩ 8 (by kernel_rfl) (by kernel_rfl) (by kernel_rfl) (by kernel_rfl)) ?_
  intro W base args ds gs before hval0 hW hcnd hsz0 _
  have hsz : (DataW.weightsEach Try.prog (Try.f10.params.toList ++ Rows.fnExactFillTemplateSpec.plain.varTypes Try.prog) (ds ++ gs)).all (· ≤ reachBytes) = true := hsz0
  have hval : ∀ (j : Nat) t v, Try.f10.params[j]? = some t → args[j]? = some v → Value.okWide Try.prog W .any base t v := hval0
  have hW' := hW
  obtain ⟨p, q, hA0, hV, rfl, hfz, hnd⟩ := hW
  have hA : DataW.TrodAll enc Try.prog W 0 (fun _ => true) true Try.f10.params.toList args.toList ds p := hA0
  rw [Try.params10] at hA hval hsz
  obtain ⟨v0, vs0, d0, ds0, p0, q0, hargs, rfl, rfl, h0, r0⟩ := trodAll_cons hA
  obtain ⟨v1, vs1, d1, ds1, p1, q1, rfl, rfl, rfl, h1, r1⟩ := trodAll_cons r0
  obtain ⟨rfl, rfl, rfl⟩ := trodAll_nil r1
  obtain rfl : args = #[v0, v1] := by cases args; simp_all
  obtain ⟨rfl, rfl⟩ := trodVars_none hV
  obtain ⟨x0, rfl⟩ := okWide_agg yA25 (hval 0 25 v0 rfl rfl)
  have k0 := h0
  have lt0 : ∀ x ∈ p0, x.block < W.heap.size := by obtain ⟨m, hm⟩ := k0; exact DataW.trod_lt m _ _ _ hm
  obtain ⟨fuel0, g0⟩ := h0
  obtain ⟨a0, i0, o0, l0⟩ := read_Form _ _ _ g0
  obtain ⟨b1, len1, cap1, rfl⟩ := okWide_slice yU58 (hval 1 58 v1 rfl rfl)
  have k1 := h1
  have lt1 : ∀ x ∈ p1, x.block < W.heap.size := by obtain ⟨m, hm⟩ := k1; exact DataW.trod_lt m _ _ _ hm
  obtain ⟨fuel1, g1⟩ := h1
  obtain ⟨a1, z1, q1, i1, o1⟩ := trod_l Hit.row (sz := 11) yU58 yS60 (fun n cs' y hn hh => by
    obtain ⟨f, a1, a2, _⟩ := read_Hit n cs' y hh
    exact ⟨f, a1, Hit.row_len f, a2⟩) g1
  obtain rfl : .slice b1 len1 cap1 = z1 := by simpa [Value.cells] using q1
  clear hA0 hval0 hsz0 hsz
  refine (AC.law (w := W) (TabW.none (by kernel_rfl)) (FnExactFillTemplate_ac a0 a1 o0 o1) (xs := [_, _]) (by simp only [V.IsL]; exact ⟨_, _, rfl, by rw [V.Is]; exact ⟨x0, rfl, row_isL i0 (by rw [Form.row_len]; exact l0)⟩, ⟨_, _, rfl, by rw [V.Is]; exact i1, rfl⟩⟩)).mono fun e W' ⟨he, bel⟩ => ?_
  subst he
  exact ⟨_, rfl, _, _, _, [], _, [], hW', trodAll_mk1 (shut_bool yU4 _), (trodAll_cons_mk (Below.trod laidOut (by kernel_rfl) (of_decide_eq_true (by kernel_rfl)) k0 bel lt0) (trodAll_cons_mk (Below.trod laidOut (by kernel_rfl) (of_decide_eq_true (by kernel_rfl)) k1 bel lt1) trodAll_mk0)), rfl, bel.frame _, fun h => by cases h⟩
theorem q1 : Try.prog.inPlace 10 = Rows.fnExactFillTemplateRow.inPlace := by kernel_rfl
theorem q2 : Try.prog.unfollowed 10 = Rows.fnExactFillTemplateRow.unfollowed := by kernel_rfl
theorem q3 : Try.prog.recurses 10 = Rows.fnExactFillTemplateRow.recurses := by kernel_rfl
theorem q4 : Try.prog.varsNamed 10 = Rows.fnExactFillTemplateRow.named := by kernel_rfl
theorem q5 : Try.prog.liftsFinal = Rows.fnExactFillTemplateRow.lifted := by kernel_rfl
theorem q6 : Try.prog.mayEnter = true := by kernel_rfl
theorem q7 : Try.prog.make = some Rows.fnExactFillTemplateRow.make := by kernel_rfl
theorem closed : joinedFacts Try.prog 10 Try.f10 Rows.fnExactFillTemplateSpec Rows.fnExactFillTemplateRow = true := by
  unfold joinedFacts
  rw [q1, q2, q3, q4, q5, q6, q7]
  kernel_rfl
theorem over : Rows.fnExactFillTemplateRow.holds Try.pinned (OpenSpec.ofChange Rows.fnExactFillTemplateSpec) :=
  OpenClaim.holds_of_wide 10 Try.f10 rfl rfl rfl rfl rfl rfl rfl ⟨rfl, rfl, rfl, rfl, rfl⟩ rfl rfl rfl rfl rfl (by kernel_rfl) Try.func10 closed
    (of_decide_eq_true (by kernel_rfl)) (by unfold Func.isWrapper; first | (rw [if_pos (by decide +kernel)]; kernel_rfl) | (rw [if_neg (by decide +kernel)]; exact ⟨rfl, rfl⟩))
    (fun os started H enc _ => lifted os started H enc)
theorem proved : Rows.FnExactFillTemplateSaid := over
end Go.Proofs.Ytbkdbbfgdjcfgaa.fnExactFillTemplate
namespace Go.Proofs.Ytbkdbbfgdjcfgaa
/-- The row, under a short name, for the claim. -/
theorem fnExactFillTemplate_holds : Rows.FnExactFillTemplateSaid := fnExactFillTemplate.proved
#print axioms fnExactFillTemplate_holds
end Go.Proofs.Ytbkdbbfgdjcfgaa
