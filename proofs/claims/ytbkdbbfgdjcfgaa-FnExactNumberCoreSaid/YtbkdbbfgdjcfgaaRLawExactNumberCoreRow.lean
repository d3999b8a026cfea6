/- For every input, the law FnExactNumberCore of the given program returns true, and its arguments read afterwards as they read before. Conditions: none beyond those of the given row. -/
import Derived.Test.YtbkdbbfgdjcfgaaRows
import Derived.Test.YtbkdbbfgdjcfgaaKb6bb8523fdea
import Derived.Test.YtbkdbbfgdjcfgaaK90306e1cfe36
import Derived.KernelRfl
set_option linter.unusedSimpArgs false
set_option linter.unusedVariables false
namespace Go.Proofs.Ytbkdbbfgdjcfgaa.fnExactNumberCore
open Go.ChangeShapes Go.WideShapes Go.ChangeAt Go.RowKit
open Go.ChangeMaps (open_string shut_string)
open Go.Abs
set_option linter.unusedVariables false
theorem yA28 : aggOf Try.prog 28 = some true := by kernel_rfl
theorem yU4 : Try.prog.underlying 4 = some .bool := by kernel_rfl
theorem own : ownKnob Try.prog.godebug = none := by kernel_rfl
theorem laidOut : laidOutB Try.prog = true := by kernel_rfl
set_option maxRecDepth 100000 in
theorem lifted (os : Os) (started : os.Started) (H : Type) (enc : TypeId × Value → H) :
    ReturnsInHanded {} Try.checked os 8 .any (Rows.fnExactNumberCoreSpec.pre6 enc Try.prog Try.f8 Rows.fnExactNumberCoreRow.domain false) (Rows.fnExactNumberCoreSpec.post enc Try.prog Try.f8 false true false false) := by
  refine returnsInHanded_of_change_sized (C := Try.checked) own started (by kernel_rfl) Try.func8
    (ChangeSpec.witness6 (enc := enc) (C := Try.checked) false ⟨#[], #[.agg #[.int .i64 0, .int .i64 0, .string ByteArray.empty, .int .i64 0, .slice none 0 0, .int .i64 0, .string ByteArray.empty, .int .i64 0, .slice none 0 0, .slice none 0 0, .slice none 0 0]], []⟩ 8 (by kernel_rfl) (by kernel_rfl) (by kernel_rfl) (by kernel_rfl)) ?_
  intro W base args ds gs before hval0 hW hcnd hsz0 _
  have hsz : (DataW.weightsEach Try.prog (Try.f8.params.toList ++ Rows.fnExactNumberCoreSpec.plain.varTypes Try.prog) (ds ++ gs)).all (· ≤ reachBytes) = true := hsz0
  have hval : ∀ (j : Nat) t v, Try.f8.params[j]? = some t → args[j]? = some v → Value.okWide Try.prog W .any base t v := hval0
  have hW' := hW
  obtain ⟨p, q, hA0, hV, rfl, hfz, hnd⟩ := hW
  have hA : DataW.TrodAll enc Try.prog W 0 (fun _ => true) true Try.f8.params.toList args.toList ds p := hA0
  rw [Try.params8] at hA hval hsz
  obtain ⟨v0, vs0, d0, ds0, p0, q0, hargs, rfl, rfl, h0, r0⟩ := trodAll_cons hA
  obtain ⟨rfl, rfl, rfl⟩ := trodAll_nil r0
  obtain rfl : args = #[v0] := by cases args; simp_all
  obtain ⟨rfl, rfl⟩ := trodVars_none hV
  obtain ⟨x0, rfl⟩ := okWide_agg yA28 (hval 0 28 v0 rfl rfl)
  have k0 := h0
  have lt0 : ∀ x ∈ p0, x.block < W.heap.size := by obtain ⟨m, hm⟩ := k0; exact DataW.trod_lt m _ _ _ hm
  obtain ⟨fuel0, g0⟩ := h0
  obtain ⟨a0, i0, o0, l0⟩ := read_Core _ _ _ g0
  clear hA0 hval0 hsz0 hsz
  refine (AC.law (w := W) (TabW.none (by kernel_rfl)) (FnExactNumberCore_ac a0 o0) (xs := [_]) (by simp only [V.IsL]; exact ⟨_, _, rfl, by rw [V.Is]; exact ⟨x0, rfl, row_isL i0 (by rw [Core.row_len]; exact l0)⟩, rfl⟩)).mono fun e W' ⟨he, bel⟩ => ?_
  subst he
  exact ⟨_, rfl, _, _, _, [], _, [], hW', trodAll_mk1 (shut_bool yU4 _), (trodAll_cons_mk (Below.trod laidOut (by kernel_rfl) (of_decide_eq_true (by kernel_rfl)) k0 bel lt0) trodAll_mk0), rfl, bel.frame _, fun h => by cases h⟩
theorem q1 : Try.prog.inPlace 8 = Rows.fnExactNumberCoreRow.inPlace := by kernel_rfl
theorem q2 : Try.prog.unfollowed 8 = Rows.fnExactNumberCoreRow.unfollowed := by kernel_rfl
theorem q3 : Try.prog.recurses 8 = Rows.fnExactNumberCoreRow.recurses := by kernel_rfl
theorem q4 : Try.prog.varsNamed 8 = Rows.fnExactNumberCoreRow.named := by kernel_rfl
theorem q5 : Try.prog.liftsFinal = Rows.fnExactNumberCoreRow.lifted := by kernel_rfl
theorem q6 : Try.prog.mayEnter = true := by kernel_rfl
theorem q7 : Try.prog.make = some Rows.fnExactNumberCoreRow.make := by kernel_rfl
theorem closed : joinedFacts Try.prog 8 Try.f8 Rows.fnExactNumberCoreSpec Rows.fnExactNumberCoreRow = true := by
  unfold joinedFacts
  rw [q1, q2, q3, q4, q5, q6, q7]
  kernel_rfl
theorem over : Rows.fnExactNumberCoreRow.holds Try.pinned (OpenSpec.ofChange Rows.fnExactNumberCoreSpec) :=
  OpenClaim.holds_of_wide 8 Try.f8 rfl rfl rfl rfl rfl rfl rfl ⟨rfl, rfl, rfl, rfl, rfl⟩ rfl rfl rfl rfl rfl (by kernel_rfl) Try.func8 closed
    (of_decide_eq_true (by kernel_rfl)) (by unfold Func.isWrapper; first | (rw [if_pos (by decide +kernel)]; kernel_rfl) | (rw [if_neg (by decide +kernel)]; exact ⟨rfl, rfl⟩))
    (fun os started H enc _ => lifted os started H enc)
theorem proved : Rows.FnExactNumberCoreSaid := over
end Go.Proofs.Ytbkdbbfgdjcfgaa.fnExactNumberCore
namespace Go.Proofs.Ytbkdbbfgdjcfgaa
/-- The row, under a short name, for the claim. -/
theorem fnExactNumberCore_holds : Rows.FnExactNumberCoreSaid := fnExactNumberCore.proved
#print axioms fnExactNumberCore_holds
end Go.Proofs.Ytbkdbbfgdjcfgaa
