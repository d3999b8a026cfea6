/- The memory behind a call. -/
import Derived.Test.YtgicgbokgmmgdaaAbsL
set_option linter.unusedSimpArgs false
set_option linter.unusedVariables false
namespace Go.Abs

theorem fst_inj : ∀ {D : List (Nat × Nat)}, (D.map (·.1)).Nodup → ∀ {a b c : Nat}, (a, b) ∈ D → (a, c) ∈ D → b = c
  | d :: D, hn, a, b, c, ha, hb => by
    obtain ⟨d1, d2⟩ := d
    simp at hn ha hb
    rcases ha with ⟨rfl, rfl⟩ | ha <;> rcases hb with ⟨h4, h5⟩ | hb
    · exact h5.symm
    · exact absurd hb (hn.1 c)
    · subst h4; exact absurd ha (hn.1 b)
    · exact fst_inj hn.2 ha hb
theorem snd_inj : ∀ {D : List (Nat × Nat)}, (D.map (·.2)).Nodup → ∀ {a b c : Nat}, (a, c) ∈ D → (b, c) ∈ D → a = b
  | d :: D, hn, a, b, c, ha, hb => by
    obtain ⟨d1, d2⟩ := d
    simp at hn ha hb
    rcases ha with ⟨rfl, rfl⟩ | ha <;> rcases hb with ⟨rfl, h5⟩ | hb
    · rfl
    · exact absurd hb (hn.1 b)
    · subst h5; exact absurd ha (hn.1 a)
    · exact snd_inj hn.2 ha hb

/-- Where our objects lie behind a call. -/
def backX (X X' : Xm) (D : List (Nat × Nat)) (j : Nat) : Option Value :=
  match D.find? (fun p => p.2 == j) with
  | some p => match X' p.1 with
    | some y => some y
    | none => X j
  | none => X j

theorem backX_in {X X' : Xm} {D : List (Nat × Nat)} (hn : (D.map (·.2)).Nodup) {k j : Nat} (h : (k, j) ∈ D) : backX X X' D j = match X' k with | some y => some y | none => X j := by
  unfold backX
  cases hf : D.find? (fun p => p.2 == j) with
  | none => have := List.find?_eq_none.1 hf _ h; simp at this
  | some p =>
    have h1 := List.find?_some hf
    have h2 := List.mem_of_find?_eq_some hf
    simp at h1
    obtain ⟨a, b⟩ := p
    simp at h1; subst h1
    rw [snd_inj hn h2 h]
theorem backX_out {X X' : Xm} {D : List (Nat × Nat)} {j : Nat} (h : j ∉ D.map (·.2)) : backX X X' D j = X j := by
  unfold backX
  cases hf : D.find? (fun p => p.2 == j) with
  | none => rfl
  | some p =>
    have h1 := List.find?_some hf
    have h2 := List.mem_of_find?_eq_some hf
    simp at h1
    exact absurd (List.mem_map.2 ⟨p, h2, h1⟩) h

theorem leave_keys (os' : Nat → Ob) (q : Nat → Nat) (D : List (Nat × Nat)) : (leave os' q D).map (·.1) = D.map (·.2) := by
  unfold leave; rw [List.map_map]; rfl

section
variable {P : Program} {C : Cx} {m : Nat → Ob} {w : World} {G : Im} {X : Xm}

theorem Mem.back (hM : Mem P C m w G X) {D : List (Nat × Nat)} {os os' : Nat → Ob} (hD1 : (D.map (·.1)).Nodup) (hD2 : (D.map (·.2)).Nodup) (hdom : ∀ k, os k ≠ .no → k ∈ D.map (·.1)) (hdom' : ∀ k, os' k ≠ .no → k ∈ D.map (·.1))
    (hos : ∀ p ∈ D, os p.1 ≠ .no → m p.2 = (os p.1).ren (qOf D) ∧ ∀ k ∈ (os p.1).ids, os k ≠ .no) (hnew : ∀ p ∈ D, os p.1 = .no → m p.2 = .no ∧ os' p.1 ≠ .no)
    {w' : World} {G' : Im} {X' : Xm} {X1 : Xm} (hM' : Mem P ⟨w, G, fun b => ∃ k x, X (qOf D k) = some x ∧ os k ≠ .no ∧ (os k).blk x = some b, X1⟩ os' w' G' X') (hsame : ∀ k y, os k ≠ .no → X (qOf D k) = some y → os' k ≠ .no → X' k = some y) :
    Gle G G' ∧ Xle X (backX X X' D) ∧ Mem P C (app m (leave os' (qOf D) D)) w' G' (backX X X' D) ∧ (∀ k y, X' k = some y → backX X X' D (qOf D k) = some y) := by
  have hq : ∀ p ∈ D, qOf D p.1 = p.2 := fun p hp => qOf_mem hD1 (by obtain ⟨a, b⟩ := p; exact hp)
  have hle : Gle G G' := hM'.gle
  have hX'in : ∀ k y, X' k = some y → ∃ j, (k, j) ∈ D ∧ os' k ≠ .no := by
    intro k y hy
    have h1 : os' k ≠ .no := fun h => by rw [(hM'.free k).2 h] at hy; cases hy
    obtain ⟨p, hp, rfl⟩ := List.mem_map.1 (hdom' k h1)
    exact ⟨p.2, hp, h1⟩
  have hXle : Xle X (backX X X' D) := by
    intro j y hy
    by_cases hj : j ∈ D.map (·.2)
    · obtain ⟨p, hp, rfl⟩ := List.mem_map.1 hj
      rw [backX_in hD2 (show (p.1, p.2) ∈ D from hp)]
      cases hx : X' p.1 with
      | none => exact hy
      | some y' =>
        obtain ⟨j', hj', h1⟩ := hX'in _ _ hx
        by_cases h2 : os p.1 = .no
        · have := (hM.free p.2).2 (hnew p hp h2).1
          rw [this] at hy; cases hy
        · have := hsame p.1 y h2 (by rw [hq p hp]; exact hy) h1
          rw [hx] at this; cases this; rfl
    · rw [backX_out hj]; exact hy
  have hback : ∀ k y, X' k = some y → backX X X' D (qOf D k) = some y := by
    intro k y hy
    obtain ⟨j, hj, _⟩ := hX'in k y hy
    rw [hq (k, j) hj, backX_in hD2 hj, hy]
  have hown : ∀ b, (∃ k x, X (qOf D k) = some x ∧ os k ≠ .no ∧ (os k).blk x = some b) → ∃ p x, p ∈ D ∧ X p.2 = some x ∧ (m p.2).blk x = some b := by
    rintro b ⟨k, x, h1, h2, h3⟩
    obtain ⟨p, hp, rfl⟩ := List.mem_map.1 (hdom k h2)
    refine ⟨p, x, hp, by rw [← hq p hp]; exact h1, ?_⟩
    rw [(hos p hp h2).1, Ob.blk_ren]; exact h3
  have hmm : ∀ p ∈ D, app m (leave os' (qOf D) D) p.2 = match os' p.1 with | .no => .dead | o => o.ren (qOf D) := fun p hp =>
    app_mem _ m p.2 _ (by rw [leave_keys]; exact hD2) (List.mem_map.2 ⟨p, hp, rfl⟩)
  have hmo : ∀ j, j ∉ D.map (·.2) → app m (leave os' (qOf D) D) j = m j := fun j hj => app_notMem _ m j (by rw [leave_keys]; exact hj)
  -- an object of D that has a block, behind the call
  have hin : ∀ p ∈ D, ∀ x b, backX X X' D p.2 = some x → (app m (leave os' (qOf D) D) p.2).blk x = some b → X' p.1 = some x ∧ (os' p.1).blk x = some b := by
    intro p hp x b hx hb
    rw [hmm p hp] at hb
    rw [backX_in hD2 (show (p.1, p.2) ∈ D from hp)] at hx
    cases ho : os' p.1 with
    | no => rw [ho] at hb; simp [Ob.blk] at hb
    | _ =>
      have h1 : os' p.1 ≠ .no := by rw [ho]; simp
      have h2 : X' p.1 ≠ none := fun h => h1 ((hM'.free _).1 h)
      cases hx' : X' p.1 with
      | none => exact absurd hx' h2
      | some y =>
        rw [hx'] at hx; cases hx
        rw [ho] at hb
        simp only [Ob.blk_ren] at hb
        exact ⟨rfl, hb⟩
  refine ⟨hle, hXle, ⟨hM.gle.trans hle, ?_, hM'.gok, ?_, ?_, ?_, ?_, ?_, ?_, fun k y hk => hXle k y (hM.old k y hk)⟩, hback⟩
  · intro b hb hnb
    rw [hM'.gold b (by have := hM.keeps.size; simp only; omega) (fun ho => ?_)]
    · exact hM.gold b hb hnb
    · obtain ⟨p, x, _, h1, h2⟩ := hown b ho
      rcases hM.mine _ _ _ h1 h2 with h3 | h3
      · exact hnb h3
      · omega
  · refine ⟨hM'.keeps.os.trans hM.keeps.os, hM'.keeps.tape.trans hM.keeps.tape, hM'.keeps.output.trans hM.keeps.output, Nat.le_trans hM.keeps.size hM'.keeps.size, fun b hb hnb => ?_⟩
    rw [hM'.keeps.block b (by have := hM.keeps.size; simp only; omega) (fun ho => ?_)]
    · exact hM.keeps.block b hb hnb
    · obtain ⟨p, x, _, h1, h2⟩ := hown b ho
      rcases hM.mine _ _ _ h1 h2 with h3 | h3
      · exact hnb h3
      · omega
  · intro j x hx
    by_cases hj : j ∈ D.map (·.2)
    · obtain ⟨p, hp, rfl⟩ := List.mem_map.1 hj
      rw [hmm p hp]
      rw [backX_in hD2 (show (p.1, p.2) ∈ D from hp)] at hx
      cases ho : os' p.1 with
      | no => trivial
      | _ =>
        have h1 : os' p.1 ≠ .no := by rw [ho]; simp
        have h2 : X' p.1 ≠ none := fun h => h1 ((hM'.free _).1 h)
        cases hx' : X' p.1 with
        | none => exact absurd hx' h2
        | some y =>
          rw [hx'] at hx; cases hx
          have hob := hM'.ob _ _ hx'
          rw [ho] at hob
          exact Ob.Ok_ren (fun k _ y hy => hback k y hy) hob
    · rw [hmo j hj]
      rw [backX_out hj] at hx
      have notown : ∀ b, (m j).blk x = some b → ¬ ∃ k x, X (qOf D k) = some x ∧ os k ≠ .no ∧ (os k).blk x = some b := by
        intro b hb ho
        obtain ⟨p, y, hp, h1, h2⟩ := hown b ho
        exact hj (List.mem_map.2 ⟨p, hp, (hM.apart _ _ _ _ b hx h1 hb h2).symm⟩)
      exact (hM.ob j x hx).mono hle hXle (fun b hb => hM'.gold b (hM.blk_lt hx hb) (notown b hb)) (fun b hb => hM'.keeps.block b (hM.blk_lt hx hb) (notown b hb))
  · intro j
    by_cases hj : j ∈ D.map (·.2)
    · obtain ⟨p, hp, rfl⟩ := List.mem_map.1 hj
      rw [hmm p hp, backX_in hD2 (show (p.1, p.2) ∈ D from hp)]
      cases ho : os' p.1 with
      | no =>
        have h1 : X' p.1 = none := (hM'.free _).2 ho
        rw [h1]
        simp only
        constructor
        · intro h
          by_cases h2 : os p.1 = .no
          · exact absurd ho (hnew p hp h2).2
          · have := (hM.free p.2).1 h
            rw [(hos p hp h2).1, Ob.ren_no] at this
            exact absurd this h2
        · intro h; cases h
      | _ =>
        have h1 : os' p.1 ≠ .no := by rw [ho]; simp
        have h2 : X' p.1 ≠ none := fun h => h1 ((hM'.free _).1 h)
        cases hx' : X' p.1 with
        | none => exact absurd hx' h2
        | some y => simp [Ob.ren]
    · rw [hmo j hj, backX_out hj]; exact hM.free j
  · intro j j' x x' b hx hx' hb hb'
    by_cases hj : j ∈ D.map (·.2) <;> by_cases hj' : j' ∈ D.map (·.2)
    · obtain ⟨p, hp, rfl⟩ := List.mem_map.1 hj
      obtain ⟨p', hp', rfl⟩ := List.mem_map.1 hj'
      obtain ⟨h1, h2⟩ := hin p hp x b hx hb
      obtain ⟨h3, h4⟩ := hin p' hp' x' b hx' hb'
      have := hM'.apart _ _ _ _ b h1 h3 h2 h4
      exact fst_inj hD1 (show (p.1, p.2) ∈ D from hp) (by rw [this]; exact hp')
    · obtain ⟨p, hp, rfl⟩ := List.mem_map.1 hj
      obtain ⟨h1, h2⟩ := hin p hp x b hx hb
      rw [hmo j' hj'] at hb'; rw [backX_out hj'] at hx'
      rcases hM'.mine _ _ _ h1 h2 with h3 | h3
      · obtain ⟨p2, y, hp2, h4, h5⟩ := hown b h3
        exact absurd (List.mem_map.2 ⟨p2, hp2, hM.apart _ _ _ _ b h4 hx' h5 hb'⟩) hj'
      · have := hM.blk_lt hx' hb'; simp only at h3; omega
    · obtain ⟨p', hp', rfl⟩ := List.mem_map.1 hj'
      obtain ⟨h1, h2⟩ := hin p' hp' x' b hx' hb'
      rw [hmo j hj] at hb; rw [backX_out hj] at hx
      rcases hM'.mine _ _ _ h1 h2 with h3 | h3
      · obtain ⟨p2, y, hp2, h4, h5⟩ := hown b h3
        exact absurd (List.mem_map.2 ⟨p2, hp2, hM.apart _ _ _ _ b h4 hx h5 hb⟩) hj
      · have := hM.blk_lt hx hb; simp only at h3; omega
    · rw [hmo j hj] at hb; rw [backX_out hj] at hx
      rw [hmo j' hj'] at hb'; rw [backX_out hj'] at hx'
      exact hM.apart _ _ _ _ b hx hx' hb hb'
  · intro j x b hx hb
    by_cases hj : j ∈ D.map (·.2)
    · obtain ⟨p, hp, rfl⟩ := List.mem_map.1 hj
      obtain ⟨h1, h2⟩ := hin p hp x b hx hb
      rcases hM'.mine _ _ _ h1 h2 with h3 | h3
      · obtain ⟨p2, y, hp2, h4, h5⟩ := hown b h3
        exact hM.mine _ _ _ h4 h5
      · exact .inr (by have := hM.keeps.size; simp only at h3; omega)
    · rw [hmo j hj] at hb; rw [backX_out hj] at hx
      exact hM.mine _ _ _ hx hb
  · intro j x hx
    by_cases hj : j ∈ D.map (·.2)
    · obtain ⟨p, hp, rfl⟩ := List.mem_map.1 hj
      rw [backX_in hD2 (show (p.1, p.2) ∈ D from hp)] at hx
      cases hx' : X' p.1 with
      | none => rw [hx'] at hx; exact hM.cell _ _ hx
      | some y => rw [hx'] at hx; cases hx; exact hM'.cell _ _ hx'
    · rw [backX_out hj] at hx; exact hM.cell _ _ hx

/-- A call: what our memory is, and what the answer is to us. -/
theorem did_call (hM : Mem P C m w G X) {E : Operand → V} {ρ : Operand → Value} (hE : ∀ x, V.Is G X (E x) (ρ x)) {o : Oper} {c : Call} {fop : Operand} {f : FuncId} {caps : List V} (ho : o.op = .call c) (hc : c.callee = .value fop) (hf : E fop = .fn f caps)
    {ks : List Nat} {D : List (Nat × Nat)} {cargs : List V} {os os' : Nat → Ob} {r : V} (hAC : AC P f cargs os r os') (hD1 : (D.map (·.1)).Nodup) (hD2 : (D.map (·.2)).Nodup)
    (hpass : PassL (app m (fzU m ks)) (qOf D) ks os (c.args.toList.map E ++ caps) cargs) (hdom : ∀ k, os k ≠ .no → k ∈ D.map (·.1)) (hdom' : ∀ k, os' k ≠ .no → k ∈ D.map (·.1))
    (hos : ∀ p ∈ D, os p.1 ≠ .no → app m (fzU m ks) p.2 = (os p.1).ren (qOf D) ∧ ∀ k ∈ (os p.1).ids, os k ≠ .no) (hnew : ∀ p ∈ D, os p.1 = .no → app m (fzU m ks) p.2 = .no ∧ os' p.1 ≠ .no) :
    ∃ args, (execOp ρ o).run P w = .ok (.enter f args) w ∧ Calls P f args w fun e w' => ∃ y G' X', e = .returned y ∧ Gle G G' ∧ Xle X X' ∧ Mem P C (app m (fzU m ks ++ leave os' (qOf D) D)) w' G' X' ∧ V.Is G' X' (r.ren (qOf D)) y := by
  obtain ⟨⟨fn, hfn, hbody, hname⟩, hcall⟩ := hAC
  obtain ⟨G1, hG1, hM1⟩ := hM.freezeL ks
  have hfx := hE fop
  rw [hf, V.Is] at hfx
  obtain ⟨xs, hfv, hcaps⟩ := hfx
  have hargs : V.IsL G X (c.args.toList.map E ++ caps) (c.args.toList.map ρ ++ xs.toList) := by
    refine V.IsL.of_get (by simp [← hcaps.length]) fun j v hv => ?_
    rw [List.getElem?_append] at hv ⊢
    simp only [List.length_map] at hv ⊢
    split at hv
    · rename_i hj
      rw [if_pos hj]
      rw [List.getElem?_map] at hv ⊢
      cases hq : c.args.toList[j]? with
      | none => rw [hq] at hv; simp at hv
      | some z => rw [hq] at hv; simp at hv; subst hv; exact ⟨ρ z, rfl, hE z⟩
    · rename_i hj
      rw [if_neg hj]
      exact hcaps.get _ v hv
  refine ⟨(c.args.toList.map ρ ++ xs.toList).toArray, ?_, ?_⟩
  · obtain ⟨cal, args, tys⟩ := c
    simp only at hc
    subst hc
    have hb : fn.body.isNone = false := by cases hh : fn.body <;> simp [hh] at hbody ⊢
    simp only [execOp, ho, Sem.run_bind, resolve, hfv, Deferred.ofValue, Sem.run_pure, Result.andThen_ok, invoke, callFunc, run_program, hfn, hname, hb]
    simp
  · have hhand := hM1.hand hD1 hD2 hdom hos
    have hcargs := PassL.is hM1 (fun k hk => unmut_fzU ks m k (.inr hk)) (q := qOf D) (os := os) (Xc := fun k => match os k with | .no => none | _ => X (qOf D k)) (fun k hk y hy => by cases ho : os k <;> simp_all) hpass (V.IsL.mono hG1 (Xle.refl X) _ _ hargs)
    refine (hcall w G1 _ _ _ hhand hcargs).mono ?_
    rintro e w' ⟨y, G', X', he, hM', hr⟩
    obtain ⟨h1, h2, h3, h4⟩ := hM1.back hD1 hD2 hdom hdom' hos hnew hM' (fun k y hk hy hk' => hM'.old k y (by cases ho : os k <;> simp_all))
    exact ⟨y, G', _, he, hG1.trans h1, h2, by rw [app_append]; exact h3, V.Is.ren r y (fun k _ z hz => h4 k z hz) hr⟩
end
end Go.Abs
