/- For every input, the law FnExactFirstRule of the given program returns true, and its arguments read afterwards as they read before. Conditions: none beyond those of the given row. -/
import Derived.Test.YtjjjnhpghhamkaaGreatRows
import Derived.Test.YtjjjnhpghhamkaaGreatK0e24fa7752d0
import Derived.Test.YtjjjnhpghhamkaaGreatK24089ae9dab9
import Derived.KernelRfl
set_option linter.unusedSimpArgs false
set_option linter.unusedVariables false
namespace Go.Proofs.YtjjjnhpghhamkaaGreat.fnExactFirstRule
open Go.ChangeShapes Go.WideShapes Go.ChangeAt Go.RowKit
open Go.ChangeMaps (open_string shut_string)
open Go.Abs
set_option linter.unusedVariables false
theorem yU50 : Tryz.prog.underlying 50 = some (.slice 119) := by kernel_rfl
theorem yS119 : szOf Tryz.prog 119 = some 3 := by kernel_rfl
theorem yU51 : Tryz.prog.underlying 51 = some (.slice 122) := by kernel_rfl
theorem yS122 : szOf Tryz.prog 122 = some 10 := by kernel_rfl
theorem yU52 : Tryz.prog.underlying 52 = some (.slice 54) := by kernel_rfl
theorem yS54 : szOf Tryz.prog 54 = some 5 := by kernel_rfl
theorem yA54 : aggOf Tryz.prog 54 = some true := by kernel_rfl
theorem yU4 : Tryz.prog.underlying 4 = some .bool := by kernel_rfl
theorem own : ownKnob Tryz.prog.godebug = none := by kernel_rfl
theorem laidOut : laidOutB Tryz.prog = true := by kernel_rfl
set_option maxRecDepth 100000 in
theorem lifted (os : Os) (started : os.Started) (H : Type) (enc : TypeId × Value → H) :
    ReturnsInHanded {} Tryz.checked os 8 .any (Rows.fnExactFirstRuleSpec.pre6 enc Tryz.prog Tryz.f8 Rows.fnExactFirstRuleRow.domain false) (Rows.fnExactFirstRuleSpec.post enc Tryz.prog Tryz.f8 false true false false) := by
  refine returnsInHanded_of_change_sized (C := Tryz.checked) own started (by kernel_rfl) Tryz.func8
    (ChangeSpec.witness6 (enc := enc) (C := Tryz.checked) false ⟨#[], #[.slice none 0 0, .slice none 0 0, .slice none 0 0, .agg #[.int .i64 0, .string ByteArray.empty, .int .i64 0, .slice none 0 0, .slice none 0 0]], []⟩ 8 (by kernel_rfl) (by kernel_rfl) (by kernel_rfl) (by kernel_rfl)) ?_
  intro W base args ds gs before hval0 hW hcnd hsz0 _
  have hsz : (DataW.weightsEach Tryz.prog (Tryz.f8.params.toList ++ Rows.fnExactFirstRuleSpec.plain.varTypes Tryz.prog) (ds ++ gs)).all (· ≤ reachBytes) = true := hsz0
  have hval : ∀ (j : Nat) t v, Tryz.f8.params[j]? = some t → args[j]? = some v → Value.okWide Tryz.prog W .any base t v := hval0
  have hW' := hW
  obtain ⟨p, q, hA0, hV, rfl, hfz, hnd⟩ := hW
  have hA : DataW.TrodAll enc Tryz.prog W 0 (fun _ => true) true Tryz.f8.params.toList args.toList ds p := hA0
  rw [Tryz.params8] at hA hval hsz
  obtain ⟨v0, vs0, d0, ds0, p0, q0, hargs, rfl, rfl, h0, r0⟩ := trodAll_cons hA
  obtain ⟨v1, vs1, d1, ds1, p1, q1, rfl, rfl, rfl, h1, r1⟩ := trodAll_cons r0
  obtain ⟨v2, vs2, d2, ds2, p2, q2, rfl, rfl, rfl, h2, r2⟩ := trodAll_cons r1
  obtain ⟨v3, vs3, d3, ds3, p3, q3, rfl, rfl, rfl, h3, r3⟩ := trodAll_cons r2
  obtain ⟨rfl, rfl, rfl⟩ := trodAll_nil r3
  obtain rfl : args = #[v0, v1, v2, v3] := by cases args; simp_all
  obtain ⟨rfl, rfl⟩ := trodVars_none hV
  obtain ⟨b0, len0, cap0, rfl⟩ := okWide_slice yU50 (hval 0 50 v0 rfl rfl)
  have k0 := h0
  have lt0 : ∀ x ∈ p0, x.block < W.heap.size := by obtain ⟨m, hm⟩ := k0; exact DataW.trod_lt m _ _ _ hm
  obtain ⟨fuel0, g0⟩ := h0
  obtain ⟨a0, z0, q0, i0, o0⟩ := trod_l Bind.row (sz := 2) yU50 yS119 (fun n cs' y hn hh => by
    obtain ⟨f, a1, a2, _⟩ := read_Bind n cs' y hh
    exact ⟨f, a1, Bind.row_len f, a2⟩) g0
  obtain rfl : .slice b0 len0 cap0 = z0 := by simpa [Value.cells] using q0
  obtain ⟨b1, len1, cap1, rfl⟩ := okWide_slice yU51 (hval 1 51 v1 rfl rfl)
  have k1 := h1
  have lt1 : ∀ x ∈ p1, x.block < W.heap.size := by obtain ⟨m, hm⟩ := k1; exact DataW.trod_lt m _ _ _ hm
  obtain ⟨fuel1, g1⟩ := h1
  obtain ⟨a1, z1, q1, i1, o1⟩ := trod_l Rule.row (sz := 9) yU51 yS122 (fun n cs' y hn hh => by
    obtain ⟨f, a1, a2, _⟩ := read_Rule n cs' y hh
    exact ⟨f, a1, Rule.row_len f, a2⟩) g1
  obtain rfl : .slice b1 len1 cap1 = z1 := by simpa [Value.cells] using q1
  obtain ⟨b2, len2, cap2, rfl⟩ := okWide_slice yU52 (hval 2 52 v2 rfl rfl)
  have k2 := h2
  have lt2 : ∀ x ∈ p2, x.block < W.heap.size := by obtain ⟨m, hm⟩ := k2; exact DataW.trod_lt m _ _ _ hm
  obtain ⟨fuel2, g2⟩ := h2
  obtain ⟨a2, z2, q2, i2, o2⟩ := trod_l Form.row (sz := 4) yU52 yS54 (fun n cs' y hn hh => by
    obtain ⟨f, a1, a2, _⟩ := read_Form n cs' y hh
    exact ⟨f, a1, Form.row_len f, a2⟩) g2
  obtain rfl : .slice b2 len2 cap2 = z2 := by simpa [Value.cells] using q2
  obtain ⟨x3, rfl⟩ := okWide_agg yA54 (hval 3 54 v3 rfl rfl)
  have k3 := h3
  have lt3 : ∀ x ∈ p3, x.block < W.heap.size := by obtain ⟨m, hm⟩ := k3; exact DataW.trod_lt m _ _ _ hm
  obtain ⟨fuel3, g3⟩ := h3
  obtain ⟨a3, i3, o3, l3⟩ := read_Form _ _ _ g3
  clear hA0 hval0 hsz0 hsz
  refine (AC.law (w := W) (FnExactFirstRule_ac a0 a1 a2 a3 o0 o1 o2 o3) (xs := [_, _, _, _]) (by simp only [V.IsL]; exact ⟨_, _, rfl, by rw [V.Is]; exact i0, ⟨_, _, rfl, by rw [V.Is]; exact i1, ⟨_, _, rfl, by rw [V.Is]; exact i2, ⟨_, _, rfl, by rw [V.Is]; exact ⟨x3, rfl, row_isL i3 (by rw [Form.row_len]; exact l3)⟩, rfl⟩⟩⟩⟩)).mono fun e W' ⟨he, bel⟩ => ?_
  subst he
  exact ⟨_, rfl, _, _, _, [], _, [], hW', trodAll_mk1 (shut_bool yU4 _), (trodAll_cons_mk (Below.trod laidOut (by kernel_rfl) (of_decide_eq_true (by kernel_rfl)) k0 bel lt0) (trodAll_cons_mk (Below.trod laidOut (by kernel_rfl) (of_decide_eq_true (by kernel_rfl)) k1 bel lt1) (trodAll_cons_mk (Below.trod laidOut (by kernel_rfl) (of_decide_eq_true (by kernel_rfl)) k2 bel lt2) (trodAll_cons_mk (Below.trod laidOut (by kernel_rfl) (of_decide_eq_true (by kernel_rfl)) k3 bel lt3) trodAll_mk0)))), rfl, bel.frame _, fun h => by cases h⟩
theorem q1 : Tryz.prog.inPlace 8 = Rows.fnExactFirstRuleRow.inPlace := by kernel_rfl
theorem q2 : Tryz.prog.unfollowed 8 = Rows.fnExactFirstRuleRow.unfollowed := by kernel_rfl
theorem q3 : Tryz.prog.recurses 8 = Rows.fnExactFirstRuleRow.recurses := by kernel_rfl
theorem q4 : Tryz.prog.varsNamed 8 = Rows.fnExactFirstRuleRow.named := by kernel_rfl
theorem q5 : Tryz.prog.liftsFinal = Rows.fnExactFirstRuleRow.lifted := by kernel_rfl
theorem q6 : Tryz.prog.mayEnter = true := by kernel_rfl
theorem q7 : Tryz.prog.make = some Rows.fnExactFirstRuleRow.make := by kernel_rfl
theorem closed : joinedFacts Tryz.prog 8 Tryz.f8 Rows.fnExactFirstRuleSpec Rows.fnExactFirstRuleRow = true := by
  unfold joinedFacts
  rw [q1, q2, q3, q4, q5, q6, q7]
  kernel_rfl
theorem over : Rows.fnExactFirstRuleRow.holds Tryz.pinned (OpenSpec.ofChange Rows.fnExactFirstRuleSpec) :=
  OpenClaim.holds_of_wide 8 Tryz.f8 rfl rfl rfl rfl rfl rfl rfl ⟨rfl, rfl, rfl, rfl, rfl⟩ rfl rfl rfl rfl rfl (by kernel_rfl) Tryz.func8 closed
    (of_decide_eq_true (by kernel_rfl)) (by unfold Func.isWrapper; first | (rw [if_pos (by decide +kernel)]; kernel_rfl) | (rw [if_neg (by decide +kernel)]; exact ⟨rfl, rfl⟩))
    (fun os started H enc _ => lifted os started H enc)
theorem proved : Rows.FnExactFirstRuleSaid := over
end Go.Proofs.YtjjjnhpghhamkaaGreat.fnExactFirstRule
namespace Go.Proofs.YtjjjnhpghhamkaaGreat
/-- The row, under a short name, for the claim. -/
theorem fnExactFirstRule_holds : Rows.FnExactFirstRuleSaid := fnExactFirstRule.proved
#print axioms fnExactFirstRule_holds
end Go.Proofs.YtjjjnhpghhamkaaGreat
