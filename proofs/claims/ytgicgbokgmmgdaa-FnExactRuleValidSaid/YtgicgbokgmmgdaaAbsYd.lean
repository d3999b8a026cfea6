/- Loops in which arrays get new names. -/
import Derived.Test.YtgicgbokgmmgdaaAbsYc
set_option linter.unusedSimpArgs false
set_option linter.unusedVariables false
namespace Go.Abs
/-- Of these names nothing outside speaks. -/
def FreshS (N asg : List Nat) (s : Nat → V) : Prop := ∀ t, asg.elem t = false → (s t).ids.all (fun j => !N.elem j) = true
def FreshM (N och : List Nat) (m : Nat → Ob) : Prop := ∀ k, och.elem k = false → (m k).ids.all (fun j => !N.elem j) = true
theorem freshS_nil {asg : List Nat} {s : Nat → V} : FreshS [] asg s := fun t _ => by simp
theorem freshM_nil {och : List Nat} {m : Nat → Ob} : FreshM [] och m := fun t _ => by simp
theorem freshS_upd {N asg : List Nat} {s : Nat → V} {k : Nat} {v : V} (h1 : (asg.elem k || v.ids.all (fun j => !N.elem j)) = true) (h : FreshS N asg s) : FreshS N asg (upd s k v) := fun t ht => by
  unfold upd
  split
  · rename_i e; subst e; rw [ht] at h1; simpa using h1
  · exact h t ht
theorem freshM_upd {N och : List Nat} {m : Nat → Ob} {k : Nat} {v : Ob} (h1 : (och.elem k || v.ids.all (fun j => !N.elem j)) = true) (h : FreshM N och m) : FreshM N och (upd m k v) := fun t ht => by
  unfold upd
  split
  · rename_i e; subst e; rw [ht] at h1; simpa using h1
  · exact h t ht
theorem slots_fresh {N asg : List Nat} : ∀ {sl : List (Nat × V)}, sl.all (fun p => asg.elem p.1 || p.2.ids.all (fun j => !N.elem j)) = true → FreshS N asg (slots sl)
  | [], _, t, _ => by simp [slots, V.ids]
  | (k, v) :: r, h, t, ht => by
    rw [List.all_cons, Bool.and_eq_true] at h
    rw [slots_cons]
    split
    · rename_i e; subst e; have := h.1; simp only at this; rw [ht] at this; simpa using this
    · exact slots_fresh h.2 t ht
theorem objs_fresh {N och : List Nat} : ∀ {sl : List (Nat × Ob)}, sl.all (fun p => och.elem p.1 || p.2.ids.all (fun j => !N.elem j)) = true → FreshM N och (objs sl)
  | [], _, t, _ => by simp [objs, Ob.ids]
  | (k, v) :: r, h, t, ht => by
    rw [List.all_cons, Bool.and_eq_true] at h
    rw [objs_cons]
    split
    · rename_i e; subst e; have := h.1; simp only at this; rw [ht] at this; simpa using this
    · exact objs_fresh h.2 t ht
theorem freshS_frame {N asg b : List Nat} {sl : List (Nat × V)} {s : Nat → V} (h1 : sl.all (fun p => asg.elem p.1 || p.2.ids.all (fun j => !N.elem j)) = true) (h : FreshS N asg s) : FreshS N asg (frame b (slots sl) s) := fun t ht => by
  rw [frame_at]
  cases b.elem t with
  | true => exact slots_fresh h1 t ht
  | false => exact h t ht
theorem freshM_frame {N och b : List Nat} {sl : List (Nat × Ob)} {m : Nat → Ob} (h1 : sl.all (fun p => och.elem p.1 || p.2.ids.all (fun j => !N.elem j)) = true) (h : FreshM N och m) : FreshM N och (frame b (objs sl) m) := fun t ht => by
  rw [frame_at]
  cases b.elem t with
  | true => exact objs_fresh h1 t ht
  | false => exact h t ht
theorem freshS_args {N asg : List Nat} {args : List V} (h : args.all (fun v => v.ids.all (fun j => !N.elem j)) = true) : FreshS N asg (fun t => args.getD t .jk) := fun t _ => by
  show ((args.getD t .jk).ids.all (fun j => !N.elem j)) = true
  rw [List.getD_eq_getElem?_getD]
  cases ht : args[t]? with
  | none => simp [V.ids]
  | some v =>
    rw [List.all_eq_true] at h
    exact h v (List.mem_of_getElem? ht)
theorem freshM_no {N och : List Nat} : FreshM N och noOb := fun t _ => by simp [noOb, Ob.ids]
section
variable {P : Program} {C : Cx} {n : Nat} {Q : Exit → St → Prop} {s : Nat → V} {m : Nat → Ob}
theorem fresh_C {N : List Nat} {os : Nat → Ob} (hC : ∀ k, C.X0 k ≠ none → os k ≠ .no) (h : N.all (fun k => isNo (os k)) = true) : ∀ k, N.elem k = true → C.X0 k = none := fun k hk => by
  rw [List.all_eq_true] at h
  have := isNo_eq (h k (by simpa using hk))
  cases hx : C.X0 k with
  | none => rfl
  | some y => exact absurd this (hC k (by rw [hx]; simp))
def okR2 (R : List (Nat × Nat)) (och gar N : List Nat) : Bool :=
  R.all (fun p => och.elem p.1 && N.elem p.1) && (och.map (qOf R)).all (fun k => (och ++ gar).elem k) && decide ((och.map (qOf R)).Nodup)
def Round2 {α : Type} (asg och gar N : List Nat) (μ : α → Nat) (sl : α → List (Nat × V)) (ob : α → List (Nat × Ob)) (Inv : α → Prop) (s : Nat → V) (m : Nat → Ob) (a : α) (Q : Exit → St → Prop) : Exit → St → Prop
  | .normal, st => ∃ a' R, okR2 R och gar N = true ∧ Inv a' ∧ μ a' < μ a ∧ Off asg st.s s ∧ Off (och ++ gar) st.m m ∧ HasR st.s och gar (qOf R) (sl a') ∧ HasQ st.m och gar (qOf R) (ob a')
  | e, st => Q e st
theorem awp_frame2 {α : Type} {c : Code} (asg och gar N : List Nat) (μ : α → Nat) (sl : α → List (Nat × V)) (ob : α → List (Nat × Ob)) (Inv : α → Prop) (a0 : α) (h0 : Inv a0)
    (hga : gar.all (fun k => isNo (m k)) = true) (hdis : och.all (fun k => !gar.elem k) = true) (hoc : ∀ a, (ob a).map (·.1) = och) (hs : HasF s (sl a0)) (ho : HasO m (ob a0)) (hNC : ∀ k, N.elem k = true → C.X0 k = none) (hNs : FreshS N asg s) (hNm : FreshM N och m)
    (round : ∀ a, Inv a → AWP P C n c (Round2 asg och gar N μ sl ob Inv s m a Q) ⟨frame asg (slots (sl a)) s, frame och (objs (ob a)) m⟩) : AWP P C n (.loop c) Q ⟨s, m⟩ := by
  rintro a w ⟨G, X, hM, hd, hsz, ht⟩
  have hgar : ∀ k, gar.elem k = true → m k = .no := fun k hk => by
    rw [List.all_eq_true] at hga
    exact isNo_eq (hga k (by simpa using hk))
  replace hM : Mem P C m w G X := hM
  replace ht : ∀ t, t < n → V.Is G X (s t) (a.eval (.tmp t)) := ht
  have hdis' : ∀ k, och.elem k = true → gar.elem k = false := fun k hk => by
    rw [List.all_eq_true] at hdis
    have := hdis k (by simpa using hk)
    simpa using this
  have f1 : ∀ i, i < n → ∀ k ∈ (s i).ids, m k ≠ .no := fun i hi k hk hn => V.Is.dom _ _ (ht i hi) k hk ((hM.free k).2 hn)
  have f2 : ∀ k, ∀ j ∈ (m k).ids, m j ≠ .no := fun k j hj hn => by
    have hn := (hM.free j).2 hn
    cases hX : X k with
    | none => rw [(hM.free k).1 hX] at hj; cases hj
    | some x =>
      have hok := hM.ob k x hX
      cases hmk : m k with
      | box cs =>
        rw [hmk] at hok hj
        obtain ⟨b, cur, e, _, _, h3, _⟩ := hok
        exact absurd hn (V.IsL.dom _ _ h3 j hj)
      | _ => rw [hmk] at hj; cases hj
  have f3 : ∀ k, C.X0 k ≠ none → m k ≠ .no := fun k hk hn => by
    have hn := (hM.free k).2 hn
    cases hx : C.X0 k with
    | none => exact absurd hx hk
    | some x => rw [hM.old k x hx] at hn; cases hn
  refine wp_loop_ghost (fun k a w => ∃ b, Inv b ∧ μ b = k ∧ Rel P C n ⟨frame asg (slots (sl b)) s, frame och (objs (ob b)) m⟩ a w) (μ a0) ⟨a0, h0, rfl, G, X, ?_, hd, hsz, ?_⟩ ?_
  · have e : frame och (objs (ob a0)) m = m := by
      funext k
      rw [frame_at]
      cases hk : och.elem k with
      | false => rfl
      | true => exact hasO_spec ho k (by rw [hoc]; simpa using hk)
    simp only; rw [e]; exact hM
  · intro t htn
    simp only [frame_at]
    cases hk : asg.elem t with
    | false => exact ht t htn
    | true =>
      rcases hasF_spec hs t with h | h
      · simp only [cond_true]; rw [h, V.Is]; trivial
      · simp only [cond_true]; rw [h]; exact ht t htn
  · rintro k a' w' ⟨b, hb, rfl, hR⟩
    refine wp_mono (round b hb a' w' hR) ?_
    rintro e a2 w2 ⟨st', hq, hR'⟩
    cases e with
    | normal =>
      obtain ⟨b', R, hok, hb', hlt, o1, o2, h3, h4⟩ := hq
      refine ⟨μ b', hlt, b', hb', rfl, ?_⟩
      obtain ⟨G', X', hM', hd', hsz', ht'⟩ := hR'
      simp only [okR2, Bool.and_eq_true, List.all_eq_true, decide_eq_true_eq] at hok
      obtain ⟨⟨hR1, hR2⟩, hR3⟩ := hok
      have hin : ∀ k, och.elem k = true → (och ++ gar).elem (qOf R k) = true := fun k hk => hR2 _ (List.mem_map_of_mem (by simpa using hk))
      have hinj : ∀ k k', och.elem k = true → och.elem k' = true → qOf R k = qOf R k' → k = k' := fun k k' hk hk' he => by
        simp at hk hk'
        exact nodup_inj hR3 hk hk' he
      have hfix : ∀ k, N.elem k = false → qOf R k = k := fun k hk => qOf_off (fun p hp e => by
        have := (hR1 p hp).2
        rw [e, hk] at this; cases this)
      have hfix2 : ∀ k, och.elem k = false → qOf R k = k := fun k hk => qOf_off (fun p hp e => by
        have := hR1 p hp
        rw [e, hk] at this; cases this.1)
      -- the new places of the objects
      let Y : Xm := fun k => bif och.elem k then X' (qOf R k) else bif gar.elem k then none else X' k
      have Yo : ∀ k, och.elem k = true → Y k = X' (qOf R k) := fun k hk => by simp only [Y, hk, cond_true]
      have Yn : ∀ k, och.elem k = false → gar.elem k = false → Y k = X' k := fun k hk hg => by simp only [Y, hk, hg, cond_false]
      have Yq : ∀ k, okId och gar k = true → Y k = X' (qOf R k) := fun k hk => by
        cases ho' : och.elem k with
        | true => exact Yo k ho'
        | false =>
          rw [okId, ho'] at hk
          rw [Yn k ho' (by simpa using hk), hfix2 k ho']
      have Yd : ∀ k, N.elem k = false → m k ≠ .no → Y k = X' k := fun k hkN hk => by
        cases ho' : och.elem k with
        | true => rw [Yo k ho', hfix k hkN]
        | false => exact Yn k ho' (by
            cases hg : gar.elem k with
            | false => rfl
            | true => exact absurd (hgar k hg) hk)
      have Ys : ∀ k x, Y k = some x → okId och gar k = true := fun k x hx => by
        rw [okId]
        cases ho' : och.elem k with
        | true => rfl
        | false =>
          cases hg : gar.elem k with
          | false => rfl
          | true => simp only [Y, ho', hg, cond_false, cond_true] at hx; cases hx
      have M' : ∀ k, okId och gar k = true → st'.m (qOf R k) = ((frame och (objs (ob b')) m) k).ren (qOf R) ∧ ∀ j ∈ ((frame och (objs (ob b')) m) k).ids, Y j = X' (qOf R j) := fun k hk => by
        cases ho' : och.elem k with
        | true =>
          obtain ⟨q1, q2⟩ := hasQ_spec h4 k (by rw [hoc]; simpa using ho')
          rw [frame_at, ho', cond_true]
          rw [List.all_eq_true] at q2
          exact ⟨q1, fun j hj => Yq j (q2 j hj)⟩
        | false =>
          rw [okId, ho'] at hk
          rw [frame_at, ho', cond_false, hfix2 k ho', o2 k (by simp at ho' hk ⊢; exact ⟨ho', hk⟩)]
          have hfr : ∀ j ∈ (m k).ids, N.elem j = false := fun j hj => by
            have := hNm k ho'
            rw [List.all_eq_true] at this
            simpa using this j hj
          refine ⟨?_, fun j hj => by rw [Yd j (hfr j hj) (f2 k j hj), hfix j (hfr j hj)]⟩
          have : ∀ j ∈ (m k).ids, qOf R j = j := fun j hj => hfix j (hfr j hj)
          cases hmk : m k with
          | box cs =>
            rw [hmk, Ob.ids] at this
            rw [Ob.ren, V.renL_congr cs this]
          | _ => rfl
      have inj : ∀ k k', okId och gar k = true → okId och gar k' = true → qOf R k = qOf R k' → k = k' := fun k k' hk hk' he => by
        cases h1 : och.elem k with
        | true =>
          cases h2 : och.elem k' with
          | true => exact hinj k k' h1 h2 he
          | false =>
            have := hin k h1
            rw [he, hfix2 k' h2] at this
            rw [okId, h2] at hk'
            simp at this h2 hk'
            rcases this with h | h <;> contradiction
        | false =>
          cases h2 : och.elem k' with
          | true =>
            have := hin k' h2
            rw [← he, hfix2 k h1] at this
            rw [okId, h1] at hk
            simp at this h1 hk
            rcases this with h | h <;> contradiction
          | false => rw [hfix2 k h1, hfix2 k' h2] at he; exact he
      refine ⟨G', Y, ⟨hM'.gle, hM'.gold, hM'.gok, hM'.keeps, ?_, ?_, ?_, ?_, ?_, ?_⟩, hd', hsz', ?_⟩
      · intro k x hx
        have hk := Ys k x hx
        obtain ⟨m1, m2⟩ := M' k hk
        rw [Yq k hk] at hx
        have := hM'.ob _ x hx
        rw [m1] at this
        exact Ob.Ok_unren (fun j hj y hy => by rw [m2 j hj]; exact hy) this
      · intro k
        cases hk : okId och gar k with
        | true =>
          obtain ⟨m1, _⟩ := M' k hk
          rw [Yq k hk, hM'.free, m1, Ob.ren_no]
        | false =>
          simp only [okId, Bool.or_eq_false_iff, Bool.not_eq_false'] at hk
          simp only [Y, hk.1, hk.2, cond_false, cond_true, frame_at, true_iff]
          exact hgar k hk.2
      · intro k k' x x' bl hx hx' hb1 hb2
        have hk := Ys k x hx
        have hk' := Ys k' x' hx'
        rw [Yq k hk] at hx
        rw [Yq k' hk'] at hx'
        refine inj k k' hk hk' (hM'.apart _ _ x x' bl hx hx' ?_ ?_)
        · rw [(M' k hk).1, Ob.blk_ren]; exact hb1
        · rw [(M' k' hk').1, Ob.blk_ren]; exact hb2
      · intro k x bl hx hb1
        have hk := Ys k x hx
        rw [Yq k hk] at hx
        exact hM'.mine _ x bl hx (by rw [(M' k hk).1, Ob.blk_ren]; exact hb1)
      · intro k x hx
        have hk := Ys k x hx
        rw [Yq k hk] at hx
        exact hM'.cell _ x hx
      · intro k x hx
        rw [Yd k (by
          cases hN : N.elem k with
          | false => rfl
          | true => rw [hNC k hN] at hx; cases hx) (f3 k (by rw [hx]; simp))]
        exact hM'.old k x hx
      · intro t htn
        simp only [frame_at asg]
        cases hk : asg.elem t with
        | false =>
          have := ht' t htn
          rw [o1 t hk] at this
          simp only [cond_false]
          have hfrs : ∀ j ∈ (s t).ids, N.elem j = false := fun j hj => by
            have h0 := hNs t hk
            rw [List.all_eq_true] at h0
            simpa using h0 j hj
          have h9 := V.Is.ren (q := fun k => k) (Y := Y) (s t) _ (fun j hj y hy => by rw [Yd j (hfrs j hj) (f1 t htn j hj)]; exact hy) this
          rwa [V.ren_id] at h9
        | true =>
          simp only [cond_true]
          rcases hasR_spec h3 t with h | ⟨h, hi⟩
          · rw [h, V.Is]; trivial
          · have := ht' t htn
            rw [h] at this
            rw [List.all_eq_true] at hi
            exact V.Is.unren _ _ (fun j hj y hy => by rw [Yq j (hi j hj)]; exact hy) this
    | _ => exact ⟨st', hq, hR'⟩


section
variable {α : Type} {asg och gar N : List Nat} {sl : Nat × α → List (Nat × V)} {ob : Nat × α → List (Nat × Ob)} {Inv : Nat × α → Prop} {b : α} {s0 : Nat → V} {m0 : Nat → Ob} {id : Nat}
theorem k_rnd_exit2 {st : St} {a : Nat × α} {μ : Nat × α → Nat} (h : Q (.exit id) st) : Round2 asg och gar N μ sl ob Inv s0 m0 a Q (.exit id) st := h
theorem k_rnd_ret2 {st : St} {a : Nat × α} {μ : Nat × α → Nat} (h : Q .ret st) : Round2 asg och gar N μ sl ob Inv s0 m0 a Q .ret st := h
theorem s_rnd2 {fu : Nat} (a' : Nat × α) (R : List (Nat × Nat)) (h1 : Inv a') (h5 : HasR s och gar (qOf R) (sl a')) (h6 : HasQ m och gar (qOf R) (ob a')) (h2 : a'.1 < fu + 1 := by first | exact Nat.lt_succ_self _ | (dsimp only; omega))
    (h3 : Off asg s s0 := by repeat (first | exact off_frame _ _ _ | exact off_refl _ _ | refine off_upd rfl ?_ | refine off_sub rfl ?_ | refine off_same rfl ?_)) (h4 : Off (och ++ gar) m m0 := by repeat (first | exact off_frame _ _ _ | exact off_refl _ _ | refine off_upd rfl ?_ | refine off_sub rfl ?_ | refine off_same rfl ?_)) (hR : okR2 R och gar N = true := by decide) : Round2 asg och gar N (fun a => a.1) sl ob Inv s0 m0 (fu + 1, b) Q .normal ⟨s, m⟩ :=
  ⟨a', R, hR, h1, h2, h3, h4, h5, h6⟩
end
end
end Go.Abs
namespace Go.Abs
section
variable {P : Program} {C : Cx} {n : Nat} {Q : Exit → St → Prop} {s : Nat → V} {m : Nat → Ob} {c : Code}
/-- A slice is nil, and then empty, or it is not. -/
theorem awp_nil {es : List (List T)} (t : Nat) (h1 : es = [] → AWP P C n c Q ⟨upd s t (.sn true (.sl es)), m⟩) (h2 : AWP P C n c Q ⟨upd s t (.sn false (.sl es)), m⟩) (hs : s t = .t (.sl es) := by conv => lhs; whnf) (ht : t < n := by decide) : AWP P C n c Q ⟨s, m⟩ := by
  rintro a w ⟨G, X, hM, hd, hsz, hv⟩
  replace hv : ∀ i, i < n → V.Is G X (s i) (a.eval (.tmp i)) := hv
  have hq := hv t ht
  rw [hs, V.Is] at hq
  have key : ∀ b : Bool, V.Is G X (.sn b (.sl es)) (a.eval (.tmp t)) → Rel P C n ⟨upd s t (.sn b (.sl es)), m⟩ a w := fun b hb => ⟨G, X, hM, hd, hsz, fun i hi => by
    by_cases hit : i = t
    · subst hit; simp only [upd_same]; exact hb
    · simp only [upd_ne _ _ _ hit]; exact hv i hi⟩
  have hq0 := hq
  rw [T.Is] at hq
  obtain ⟨A, cap, sz, hx, _, _, hor⟩ := hq
  cases A with
  | none =>
    refine h1 ?_ a w (key true ?_)
    · rcases hor with h | ⟨b, off, cs, h, _⟩
      · exact h
      · cases h
    · rw [V.Is]; exact ⟨hq0, none, _, _, hx, rfl⟩
  | some A =>
    refine h2 a w (key false ?_)
    rw [V.Is]; exact ⟨hq0, some A, _, _, hx, rfl⟩
/-- Whether it is nil is forgotten. -/
theorem awp_unnil {b : Bool} {y : T} (t : Nat) (h : AWP P C n c Q ⟨upd s t (.t y), m⟩) (hs : s t = .sn b y := by conv => lhs; whnf) : AWP P C n c Q ⟨s, m⟩ := by
  refine awp_weak ?_ h
  rintro a w ⟨G, X, hM, hd, hsz, hv⟩
  replace hv : ∀ i, i < n → V.Is G X (s i) (a.eval (.tmp i)) := hv
  refine ⟨G, X, hM, hd, hsz, fun i hi => ?_⟩
  by_cases hit : i = t
  · subst hit
    have := hv i hi
    rw [hs, V.Is] at this
    simp only [upd_same]; rw [V.Is]; exact this.1
  · simp only [upd_ne _ _ _ hit]; exact hv i hi
end
end Go.Abs
