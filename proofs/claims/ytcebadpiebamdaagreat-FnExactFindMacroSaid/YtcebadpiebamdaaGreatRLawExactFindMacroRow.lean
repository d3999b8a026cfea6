/- For every input, the law FnExactFindMacro of the given program returns true, and its arguments read afterwards as they read before. Conditions: none beyond those of the given row. -/
import Derived.Test.YtcebadpiebamdaaGreatRows
import Derived.Test.YtcebadpiebamdaaGreatK402e3b98a876
import Derived.Test.YtcebadpiebamdaaGreatK4a46dafd7e66
import Derived.KernelRfl
set_option linter.unusedSimpArgs false
set_option linter.unusedVariables false
namespace Go.Proofs.YtcebadpiebamdaaGreat.fnExactFindMacro
open Go.ChangeShapes Go.WideShapes Go.ChangeAt Go.RowKit
open Go.ChangeMaps (open_string shut_string)
open Go.Abs
set_option linter.unusedVariables false
theorem yA51 : zc7 Tryz.prog 51 = some true := by kernel_rfl
theorem yU3 : Tryz.prog.underlying 3 = some (.int .i64) := by kernel_rfl
theorem yU4 : Tryz.prog.underlying 4 = some .bool := by kernel_rfl
theorem own : ownKnob Tryz.prog.godebug = none := by kernel_rfl
theorem laidOut : laidOutB Tryz.prog = true := by kernel_rfl
set_option maxRecDepth 100000 in
theorem lifted (os : Os) (started : os.Started) (H : Type) (enc : TypeId × Value → H) :
    ReturnsInHanded {} Tryz.checked os 4 .any (Rows.fnExactFindMacroSpec.pre6 enc Tryz.prog Tryz.f4 Rows.fnExactFindMacroRow.domain false) (Rows.fnExactFindMacroSpec.post enc Tryz.prog Tryz.f4 false true false false) := by
  refine returnsInHanded_of_change_sized (C := Tryz.checked) own started (by kernel_rfl) Tryz.func4
    (ChangeSpec.witness6 (enc := enc) (C := Tryz.checked) false ⟨#[], #[.agg #[.slice none 0 0, .slice none 0 0, .int .i64 0, .int .i64 0, .int .i64 0], .int .i64 0], []⟩ 8 (by kernel_rfl) (by kernel_rfl) (by kernel_rfl) (by kernel_rfl)) ?_
  intro W base args ds gs before hval0 hW hcnd hsz0 _
  have hsz : (DataW.weightsEach Tryz.prog (Tryz.f4.params.toList ++ Rows.fnExactFindMacroSpec.plain.varTypes Tryz.prog) (ds ++ gs)).all (· ≤ reachBytes) = true := hsz0
  have hval : ∀ (j : Nat) t v, Tryz.f4.params[j]? = some t → args[j]? = some v → Value.okWide Tryz.prog W .any base t v := hval0
  have hW' := hW
  obtain ⟨p, q, hA0, hV, rfl, hfz, hnd⟩ := hW
  have hA : DataW.TrodAll enc Tryz.prog W 0 (fun _ => true) true Tryz.f4.params.toList args.toList ds p := hA0
  rw [Tryz.params4] at hA hval hsz
  obtain ⟨v0, vs0, d0, ds0, p0, q0, hargs, rfl, rfl, h0, r0⟩ := trodAll_cons hA
  obtain ⟨v1, vs1, d1, ds1, p1, q1, rfl, rfl, rfl, h1, r1⟩ := trodAll_cons r0
  obtain ⟨rfl, rfl, rfl⟩ := trodAll_nil r1
  obtain rfl : args = #[v0, v1] := by cases args; simp_all
  obtain ⟨rfl, rfl⟩ := trodVars_none hV
  obtain ⟨x0, rfl⟩ := okWide_agg yA51 (hval 0 51 v0 rfl rfl)
  have k0 := h0
  have lt0 : ∀ x ∈ p0, x.block < W.heap.size := by obtain ⟨m, hm⟩ := k0; exact DataW.trod_lt m _ _ _ hm
  obtain ⟨fuel0, g0⟩ := h0
  obtain ⟨a0, i0, o0, l0⟩ := read_Expansion _ _ _ g0
  obtain ⟨a1, rfl, rfl, rfl, o1⟩ := open_int yU3 (hval 1 3 v1 rfl rfl) h1
  clear hA0 hval0 hsz0 hsz
  refine (AC.law (w := W) (TabW.none (by kernel_rfl)) (FnExactFindMacro_ac a0 a1 o0 (int_ok o1)) (xs := [_, _]) (by simp only [V.IsL]; exact ⟨_, _, rfl, by rw [V.Is]; exact ⟨x0, rfl, row_isL i0 (by rw [zv.row_len]; exact l0)⟩, ⟨_, _, rfl, by rw [V.Is, T.Is]; rfl, rfl⟩⟩)).mono fun e W' ⟨he, bel⟩ => ?_
  subst he
  exact ⟨_, rfl, _, _, _, [], _, [], hW', trodAll_mk1 (shut_bool yU4 _), (trodAll_cons_mk (Below.trod laidOut (by kernel_rfl) (of_decide_eq_true (by kernel_rfl)) k0 bel lt0) (trodAll_cons_mk (shut_int yU3 o1) trodAll_mk0)), rfl, bel.frame _, fun h => by cases h⟩
theorem q1 : Tryz.prog.inPlace 4 = Rows.fnExactFindMacroRow.inPlace := by kernel_rfl
theorem q2 : Tryz.prog.unfollowed 4 = Rows.fnExactFindMacroRow.unfollowed := by kernel_rfl
theorem q3 : Tryz.prog.recurses 4 = Rows.fnExactFindMacroRow.recurses := by kernel_rfl
theorem q4 : Tryz.prog.varsNamed 4 = Rows.fnExactFindMacroRow.named := by kernel_rfl
theorem q5 : Tryz.prog.liftsFinal = Rows.fnExactFindMacroRow.lifted := by kernel_rfl
theorem q6 : Tryz.prog.mayEnter = true := by kernel_rfl
theorem q7 : Tryz.prog.make = some Rows.fnExactFindMacroRow.make := by kernel_rfl
theorem closed : joinedFacts Tryz.prog 4 Tryz.f4 Rows.fnExactFindMacroSpec Rows.fnExactFindMacroRow = true := by
  unfold joinedFacts
  rw [q1, q2, q3, q4, q5, q6, q7]
  kernel_rfl
theorem over : Rows.fnExactFindMacroRow.holds Tryz.pinned (OpenSpec.ofChange Rows.fnExactFindMacroSpec) :=
  OpenClaim.holds_of_wide 4 Tryz.f4 rfl rfl rfl rfl rfl rfl rfl ⟨rfl, rfl, rfl, rfl, rfl⟩ rfl rfl rfl rfl rfl (by kernel_rfl) Tryz.func4 closed
    (of_decide_eq_true (by kernel_rfl)) (by unfold Func.isWrapper; first | (rw [if_pos (by decide +kernel)]; kernel_rfl) | (rw [if_neg (by decide +kernel)]; exact ⟨rfl, rfl⟩))
    (fun os started H enc _ => lifted os started H enc)
theorem proved : Rows.FnExactFindMacroSaid := over
end Go.Proofs.YtcebadpiebamdaaGreat.fnExactFindMacro
namespace Go.Proofs.YtcebadpiebamdaaGreat
/-- The row, under a short name, for the claim. -/
theorem fnExactFindMacro_holds : Rows.FnExactFindMacroSaid := fnExactFindMacro.proved
#print axioms fnExactFindMacro_holds
end Go.Proofs.YtcebadpiebamdaaGreat
