/- Loops that change few slots and few objects: the rest of the state stays. -/
import Derived.Test.YtpkelhmjemcogaaAbsU
set_option linter.unusedSimpArgs false
set_option linter.unusedVariables false
namespace Go.Abs

mutual
theorem V.Is.dom {G : Im} {X : Xm} : ∀ (v : V) (x : Value), V.Is G X v x → ∀ k ∈ v.ids, X k ≠ none
  | .t y, x, _, k, hk => by simp [V.ids] at hk
  | .nl, x, _, k, hk => by simp [V.ids] at hk
  | .pe cs, x, _, k, hk => by simp [V.ids] at hk
  | .rf j off, x, h, k, hk => by
    rw [V.Is] at h; rw [V.ids] at hk
    obtain ⟨b, h, _⟩ := h
    simp at hk; subst hk; rw [h]; simp
  | .re j i sz off, x, h, k, hk => by
    rw [V.Is] at h; rw [V.ids] at hk
    obtain ⟨b, n, c, h, _⟩ := h
    simp at hk; subst hk; rw [h]; simp
  | .ar j, x, h, k, hk => by
    rw [V.Is] at h; rw [V.ids] at hk
    simp at hk; subst hk; rw [h]; simp
  | .ag cs, x, h, k, hk => by
    rw [V.Is] at h; rw [V.ids] at hk
    obtain ⟨xs, _, h⟩ := h
    exact V.IsL.dom cs _ h k hk
  | .tp cs, x, h, k, hk => by
    rw [V.Is] at h; rw [V.ids] at hk
    obtain ⟨xs, _, h⟩ := h
    exact V.IsL.dom cs _ h k hk
  | .fn f cs, x, h, k, hk => by
    rw [V.Is] at h; rw [V.ids] at hk
    obtain ⟨xs, _, h⟩ := h
    exact V.IsL.dom cs _ h k hk
  | .jk, x, _, k, hk => by simp [V.ids] at hk
theorem V.IsL.dom {G : Im} {X : Xm} : ∀ (vs : List V) (xs : List Value), V.IsL G X vs xs → ∀ k ∈ V.idsL vs, X k ≠ none
  | [], xs, _, k, hk => by rw [V.idsL] at hk; cases hk
  | v :: vs, xs, h, k, hk => by
    rw [V.IsL] at h; rw [V.idsL] at hk
    obtain ⟨y, ys, _, h1, h2⟩ := h
    rcases List.mem_append.1 hk with hk | hk
    · exact V.Is.dom v y h1 k hk
    · exact V.IsL.dom vs ys h2 k hk
end

def frame {α : Type} (asg : List Nat) (f g : Nat → α) : Nat → α := fun i => bif asg.elem i then f i else g i
theorem frame_at {α : Type} (asg : List Nat) (f g : Nat → α) (i : Nat) : frame asg f g i = bif asg.elem i then f i else g i := rfl

/-- Outside of some places the one is the other. -/
def Off {α : Type} (asg : List Nat) (f g : Nat → α) : Prop := ∀ i, asg.elem i = false → f i = g i
theorem off_refl {α : Type} (asg : List Nat) (f : Nat → α) : Off asg f f := fun _ _ => rfl
theorem off_frame {α : Type} (asg : List Nat) (f g : Nat → α) : Off asg (frame asg f g) g := fun i hi => by rw [frame_at, hi]; rfl
theorem off_sub {α : Type} {a b : List Nat} {f g h : Nat → α} (hs : a.all (fun i => b.elem i) = true) (hg : Off b g h) : Off b (frame a f g) h := fun i hi => by
  rw [frame_at]
  cases he : a.elem i with
  | true =>
    rw [List.all_eq_true] at hs
    have := hs i (by simpa using he)
    rw [hi] at this; cases this
  | false => exact hg i hi
theorem off_upd {α : Type} {asg : List Nat} {f g : Nat → α} {k : Nat} {v : α} (hk : asg.elem k = true) (h : Off asg f g) : Off asg (upd f k v) g := fun i hi => by
  unfold upd
  rw [if_neg (fun e => by subst e; rw [hk] at hi; cases hi)]
  exact h i hi

def HasF (s : Nat → V) (gar : List Nat) : List (Nat × V) → Prop
  | [] => True
  | (i, v) :: r => (s i = v ∧ v.ids.all (fun k => !gar.elem k) = true) ∧ HasF s gar r
def HasO (m : Nat → Ob) (gar : List Nat) : List (Nat × Ob) → Prop
  | [] => True
  | (i, o) :: r => (m i = o ∧ o.ids.all (fun k => !gar.elem k) = true) ∧ HasO m gar r
theorem hasF_spec {s : Nat → V} {gar : List Nat} : ∀ {l : List (Nat × V)}, HasF s gar l → ∀ i, slots l i = .jk ∨ (slots l i = s i ∧ (s i).ids.all (fun k => !gar.elem k) = true)
  | [], _, i => .inl rfl
  | (j, v) :: r, h, i => by
    rw [slots_cons]
    by_cases hij : i = j
    · subst hij; rw [if_pos rfl]; exact .inr ⟨h.1.1.symm, by rw [h.1.1]; exact h.1.2⟩
    · rw [if_neg hij]; exact hasF_spec h.2 i
theorem hasO_spec {m : Nat → Ob} {gar : List Nat} : ∀ {l : List (Nat × Ob)}, HasO m gar l → ∀ i, (i ∈ l.map (·.1) → objs l i = m i ∧ (m i).ids.all (fun k => !gar.elem k) = true)
  | [], _, i => fun h => by simp at h
  | (j, v) :: r, h, i => by
    rw [objs_cons]
    by_cases hij : i = j
    · subst hij; rw [if_pos rfl]; exact fun _ => ⟨h.1.1.symm, by rw [h.1.1]; exact h.1.2⟩
    · rw [if_neg hij]
      exact fun hm => hasO_spec h.2 i (by simp [hij] at hm; simpa using hm)

section
variable {P : Program} {C : Cx} {n : Nat} {Q : Exit → St → Prop} {s : Nat → V} {m : Nat → Ob}

theorem Mem.keep {m : Nat → Ob} {w : World} {G : Im} {X : Xm} (h : Mem P C m w G X) (gar : List Nat) (hC : ∀ k, C.X0 k ≠ none → gar.elem k = false) (hob : ∀ k, gar.elem k = false → ∀ j ∈ (m k).ids, gar.elem j = false) :
    Mem P C (frame gar (fun _ => .no) m) w G (frame gar (fun _ => none) X) := by
  have e1 : ∀ k, gar.elem k = false → frame gar (fun _ => Ob.no) m k = m k := fun k hk => by rw [frame_at, hk]; rfl
  have e2 : ∀ k, gar.elem k = false → frame gar (fun _ => none) X k = X k := fun k hk => by rw [frame_at, hk]; rfl
  have e3 : ∀ k x, frame gar (fun _ => none) X k = some x → gar.elem k = false ∧ X k = some x := fun k x hx => by
    cases hk : gar.elem k with
    | true => rw [frame_at, hk] at hx; cases hx
    | false => rw [e2 k hk] at hx; exact ⟨rfl, hx⟩
  refine ⟨h.gle, h.gold, h.gok, h.keeps, ?_, ?_, ?_, ?_, ?_, fun k y hk => by rw [e2 k (hC k (by rw [hk]; simp))]; exact h.old k y hk⟩
  · intro k x hx
    obtain ⟨hk, hx⟩ := e3 k x hx
    rw [e1 k hk]
    have := h.ob k x hx
    rw [← Ob.ren_id (m k)]
    exact Ob.Ok_ren (fun j hj y hy => by rw [e2 j (hob k hk j hj)]; exact hy) this
  · intro k
    cases hk : gar.elem k with
    | true => rw [frame_at, frame_at, hk]; simp
    | false => rw [e1 k hk, e2 k hk]; exact h.free k
  · intro k k' x x' b hx hx' hb hb'
    obtain ⟨hk, hx⟩ := e3 k x hx
    obtain ⟨hk', hx'⟩ := e3 k' x' hx'
    rw [e1 k hk] at hb
    rw [e1 k' hk'] at hb'
    exact h.apart k k' x x' b hx hx' hb hb'
  · intro k x b hx hb
    obtain ⟨hk, hx⟩ := e3 k x hx
    rw [e1 k hk] at hb
    exact h.mine k x b hx hb
  · intro k x hx
    exact h.cell k x (e3 k x hx).2

theorem V.Is.keep {G : Im} {X : Xm} {gar : List Nat} {v : V} {x : Value} (h : ∀ k ∈ v.ids, gar.elem k = false) (hi : V.Is G X v x) : V.Is G (frame gar (fun _ => none) X) v x := by
  have := V.Is.ren (q := fun k => k) (Y := frame gar (fun _ => none) X) v x (fun k hk y hy => by rw [frame_at, h k hk]; exact hy) hi
  rwa [V.ren_id] at this

/-- The state at the head of a loop. -/
def HeadSt (asg och : List Nat) (sl : List (Nat × V)) (ob : List (Nat × Ob)) (s : Nat → V) (m : Nat → Ob) : St := ⟨frame asg (slots sl) s, frame och (objs ob) m⟩
def Round {α : Type} (asg och gar : List Nat) (μ : α → Nat) (sl : α → List (Nat × V)) (ob : α → List (Nat × Ob)) (Inv : α → Prop) (s : Nat → V) (m : Nat → Ob) (a : α) (Q : Exit → St → Prop) : Exit → St → Prop
  | .normal, st => ∃ a', Inv a' ∧ μ a' < μ a ∧ Off asg st.s s ∧ Off (och ++ gar) st.m m ∧ HasF st.s gar (sl a') ∧ HasO st.m gar (ob a')
  | e, st => Q e st

theorem awp_frame {α : Type} {c : Code} (asg och gar : List Nat) (μ : α → Nat) (sl : α → List (Nat × V)) (ob : α → List (Nat × Ob)) (Inv : α → Prop) (a0 : α) (h0 : Inv a0)
    (hga : gar.all (fun k => isNo (m k)) = true) (hdis : och.all (fun k => !gar.elem k) = true) (hoc : ∀ a, (ob a).map (·.1) = och) (hs : HasF s [] (sl a0)) (ho : HasO m [] (ob a0))
    (round : ∀ a, Inv a → AWP P C n c (Round asg och gar μ sl ob Inv s m a Q) ⟨frame asg (slots (sl a)) s, frame och (objs (ob a)) m⟩) : AWP P C n (.loop c) Q ⟨s, m⟩ := by
  rintro a w ⟨G, X, hM, hd, hsz, ht⟩
  have hgar : ∀ k ∈ gar, m k = .no := fun k hk => by
    rw [List.all_eq_true] at hga
    exact isNo_eq (hga k hk)
  replace hM : Mem P C m w G X := hM
  replace ht : ∀ t, t < n → V.Is G X (s t) (a.eval (.tmp t)) := ht
  have f1 : ∀ i, i < n → ∀ k ∈ (s i).ids, gar.elem k = false := fun i hi k hk => by
    have h1 := V.Is.dom _ _ (ht i hi) k hk
    cases hg : gar.elem k with
    | false => rfl
    | true => exact absurd ((hM.free k).2 (hgar k (by simpa using hg))) h1
  have f2 : ∀ k, ∀ j ∈ (m k).ids, gar.elem j = false := fun k j hj => by
    cases hg : gar.elem j with
    | false => rfl
    | true =>
      have hn := (hM.free j).2 (hgar j (by simpa using hg))
      cases hX : X k with
      | none => rw [(hM.free k).1 hX] at hj; cases hj
      | some x =>
        have hok := hM.ob k x hX
        cases hmk : m k with
        | box cs =>
          rw [hmk] at hok hj
          obtain ⟨b, cur, e, _, _, h3, _⟩ := hok
          exact absurd hn (V.IsL.dom _ _ h3 j hj)
        | _ => rw [hmk] at hj; cases hj
  have f3 : ∀ k, C.X0 k ≠ none → gar.elem k = false := fun k hk => by
    cases hg : gar.elem k with
    | false => rfl
    | true =>
      have hn := (hM.free k).2 (hgar k (by simpa using hg))
      cases hx : C.X0 k with
      | none => exact absurd hx hk
      | some x => rw [hM.old k x hx] at hn; cases hn
  have hdis' : ∀ k, och.elem k = true → gar.elem k = false := fun k hk => by
    rw [List.all_eq_true] at hdis
    have := hdis k (by simpa using hk)
    simpa using this
  refine wp_loop_ghost (fun k a w => ∃ b, Inv b ∧ μ b = k ∧ Rel P C n ⟨frame asg (slots (sl b)) s, frame och (objs (ob b)) m⟩ a w) (μ a0) ⟨a0, h0, rfl, G, X, ?_, hd, hsz, ?_⟩ ?_
  · have e : frame och (objs (ob a0)) m = m := by
      funext k
      rw [frame_at]
      cases hk : och.elem k with
      | false => rfl
      | true => exact (hasO_spec ho k (by rw [hoc]; simpa using hk)).1
    simp only; rw [e]; exact hM
  · intro t htn
    simp only [frame_at]
    cases hk : asg.elem t with
    | false => exact ht t htn
    | true =>
      rcases hasF_spec hs t with h | ⟨h, _⟩
      · simp only [cond_true]; rw [h, V.Is]; trivial
      · simp only [cond_true]; rw [h]; exact ht t htn
  · rintro k a' w' ⟨b, hb, rfl, hR⟩
    refine wp_mono (round b hb a' w' hR) ?_
    rintro e a2 w2 ⟨st', hq, hR'⟩
    cases e with
    | normal =>
      obtain ⟨b', hb', hlt, o1, o2, h3, h4⟩ := hq
      refine ⟨μ b', hlt, b', hb', rfl, ?_⟩
      obtain ⟨G', X', hM', hd', hsz', ht'⟩ := hR'
      have e : frame och (objs (ob b')) m = frame gar (fun _ => .no) st'.m := by
        funext k
        rw [frame_at, frame_at]
        cases hk : och.elem k with
        | true =>
          rw [hdis' k hk]
          exact (hasO_spec h4 k (by rw [hoc]; simpa using hk)).1
        | false =>
          cases hg : gar.elem k with
          | true => exact hgar k (by simpa using hg)
          | false => exact (o2 k (by simp at hk hg ⊢; exact ⟨hk, hg⟩)).symm
      have hob : ∀ k, gar.elem k = false → ∀ j ∈ (st'.m k).ids, gar.elem j = false := by
        intro k hk j hj
        cases ho' : och.elem k with
        | true =>
          have := (hasO_spec h4 k (by rw [hoc]; simpa using ho')).2
          rw [List.all_eq_true] at this
          simpa using this j hj
        | false =>
          rw [o2 k (by simp at hk ho' ⊢; exact ⟨ho', hk⟩)] at hj
          exact f2 k j hj
      refine ⟨G', frame gar (fun _ => none) X', ?_, hd', hsz', ?_⟩
      · simp only; rw [e]; exact hM'.keep gar f3 hob
      · intro t htn
        simp only [frame_at asg]
        cases hk : asg.elem t with
        | false =>
          have := ht' t htn
          rw [o1 t hk] at this
          exact V.Is.keep (f1 t htn) this
        | true =>
          simp only [cond_true]
          rcases hasF_spec h3 t with h | ⟨h, hi⟩
          · rw [h, V.Is]; trivial
          · rw [h]
            exact V.Is.keep (fun k hk => by rw [List.all_eq_true] at hi; simpa using hi k hk) (ht' t htn)
    | _ => exact ⟨st', hq, hR'⟩

section
variable {α : Type} {asg och gar : List Nat} {μ : α → Nat} {sl : α → List (Nat × V)} {ob : α → List (Nat × Ob)} {Inv : α → Prop} {a : α} {s0 : Nat → V} {m0 : Nat → Ob} {st : St} {id : Nat}
theorem k_rnd_exit (h : Q (.exit id) st) : Round asg och gar μ sl ob Inv s0 m0 a Q (.exit id) st := h
theorem k_rnd_ret (h : Q .ret st) : Round asg och gar μ sl ob Inv s0 m0 a Q .ret st := h
theorem k_rnd (a' : α) (h1 : Inv a') (h2 : μ a' < μ a) (h3 : Off asg s s0) (h4 : Off (och ++ gar) m m0) (h5 : HasF s gar (sl a')) (h6 : HasO m gar (ob a')) : Round asg och gar μ sl ob Inv s0 m0 a Q .normal ⟨s, m⟩ := ⟨a', h1, h2, h3, h4, h5, h6⟩
end
theorem hasF_cons {gar : List Nat} {i : Nat} {v v' : V} {r : List (Nat × V)} (h1 : s i = v') (h2 : v' = v) (h3 : v.ids.all (fun k => !gar.elem k) = true) (h4 : HasF s gar r) : HasF s gar ((i, v) :: r) := ⟨⟨h1.trans h2, h3⟩, h4⟩
theorem hasO_cons {gar : List Nat} {i : Nat} {v v' : Ob} {r : List (Nat × Ob)} (h1 : m i = v') (h2 : v' = v) (h3 : v.ids.all (fun k => !gar.elem k) = true) (h4 : HasO m gar r) : HasO m gar ((i, v) :: r) := ⟨⟨h1.trans h2, h3⟩, h4⟩
end
end Go.Abs
