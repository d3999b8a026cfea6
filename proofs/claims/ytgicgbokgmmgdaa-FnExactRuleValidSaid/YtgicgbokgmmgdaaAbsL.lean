/- Calls: a function is told by what it answers to pure values and to the objects that it is handed. -/
import Derived.Test.YtgicgbokgmmgdaaAbsK
set_option linter.unusedSimpArgs false
set_option linter.unusedVariables false
namespace Go.Abs

mutual
def V.ren (q : Nat → Nat) : V → V
  | .rf k o => .rf (q k) o
  | .re k i sz o => .re (q k) i sz o
  | .ar k => .ar (q k)
  | .ag cs => .ag (V.renL q cs)
  | .tp vs => .tp (V.renL q vs)
  | .fn f caps => .fn f (V.renL q caps)
  | .t x => .t x
  | .nl => .nl
  | .pe cs => .pe cs
  | .jk => .jk
  | .ze => .ze
  | .sn b y => .sn b y
def V.renL (q : Nat → Nat) : List V → List V
  | [] => []
  | v :: vs => V.ren q v :: V.renL q vs
end
def Ob.ren (q : Nat → Nat) : Ob → Ob
  | .box cs => .box (V.renL q cs)
  | o => o
def Ob.ids : Ob → List Nat
  | .box cs => V.idsL cs
  | _ => []

mutual
theorem V.Is.ren {G : Im} {X Y : Xm} {q : Nat → Nat} : ∀ (v : V) (x : Value), (∀ k ∈ v.ids, ∀ y, X k = some y → Y (q k) = some y) → V.Is G X v x → V.Is G Y (v.ren q) x
  | .t y, x, _, h => by rw [V.ren]; rw [V.Is] at h ⊢; exact h
  | .nl, x, _, h => by rw [V.ren]; rw [V.Is] at h ⊢; exact h
  | .pe cs, x, _, h => by rw [V.ren]; rw [V.Is] at h ⊢; exact h
  | .jk, x, _, h => by rw [V.ren, V.Is]; trivial
  | .ze, x, _, h => by rw [V.ren]; rw [V.Is] at h ⊢; exact h
  | .sn _ _, x, _, h => by rw [V.ren]; rw [V.Is] at h ⊢; exact h
  | .rf k o, x, hq, h => by
    rw [V.ren]; rw [V.Is] at h ⊢; obtain ⟨b, h1, h2⟩ := h; exact ⟨b, hq k (by simp [V.ids]) _ h1, h2⟩
  | .re k i sz o, x, hq, h => by
    rw [V.ren]; rw [V.Is] at h ⊢; obtain ⟨b, n, c, h1, h2⟩ := h; exact ⟨b, n, c, hq k (by simp [V.ids]) _ h1, h2⟩
  | .ar k, x, hq, h => by rw [V.ren]; rw [V.Is] at h ⊢; exact hq k (by simp [V.ids]) _ h
  | .ag cs, x, hq, h => by rw [V.ren]; rw [V.Is] at h ⊢; obtain ⟨xs, h1, h2⟩ := h; exact ⟨xs, h1, V.IsL.ren cs _ (by rw [V.ids] at hq; exact hq) h2⟩
  | .tp cs, x, hq, h => by rw [V.ren]; rw [V.Is] at h ⊢; obtain ⟨xs, h1, h2⟩ := h; exact ⟨xs, h1, V.IsL.ren cs _ (by rw [V.ids] at hq; exact hq) h2⟩
  | .fn f cs, x, hq, h => by rw [V.ren]; rw [V.Is] at h ⊢; obtain ⟨xs, h1, h2⟩ := h; exact ⟨xs, h1, V.IsL.ren cs _ (by rw [V.ids] at hq; exact hq) h2⟩
theorem V.IsL.ren {G : Im} {X Y : Xm} {q : Nat → Nat} : ∀ (vs : List V) (xs : List Value), (∀ k ∈ V.idsL vs, ∀ y, X k = some y → Y (q k) = some y) → V.IsL G X vs xs → V.IsL G Y (V.renL q vs) xs
  | [], xs, _, h => by rw [V.renL]; rw [V.IsL] at h ⊢; exact h
  | v :: vs, xs, hq, h => by
    rw [V.renL]; rw [V.IsL] at h ⊢
    obtain ⟨y, ys, h1, h2, h3⟩ := h
    exact ⟨y, ys, h1, V.Is.ren v y (fun k hk => hq k (by simp [V.idsL, hk])) h2, V.IsL.ren vs ys (fun k hk => hq k (by simp [V.idsL, hk])) h3⟩
end

mutual
theorem V.Is.unren {G : Im} {X Y : Xm} {q : Nat → Nat} : ∀ (v : V) (x : Value), (∀ k ∈ v.ids, ∀ y, Y (q k) = some y → X k = some y) → V.Is G Y (v.ren q) x → V.Is G X v x
  | .t y, x, _, h => by rw [V.ren] at h; rw [V.Is] at h ⊢; exact h
  | .nl, x, _, h => by rw [V.ren] at h; rw [V.Is] at h ⊢; exact h
  | .pe cs, x, _, h => by rw [V.ren] at h; rw [V.Is] at h ⊢; exact h
  | .jk, x, _, h => by rw [V.Is]; trivial
  | .ze, x, _, h => by rw [V.ren] at h; rw [V.Is] at h ⊢; exact h
  | .sn _ _, x, _, h => by rw [V.ren] at h; rw [V.Is] at h ⊢; exact h
  | .rf k o, x, hq, h => by
    rw [V.ren] at h; rw [V.Is] at h ⊢; obtain ⟨b, h1, h2⟩ := h; exact ⟨b, hq k (by simp [V.ids]) _ h1, h2⟩
  | .re k i sz o, x, hq, h => by
    rw [V.ren] at h; rw [V.Is] at h ⊢; obtain ⟨b, n, c, h1, h2⟩ := h; exact ⟨b, n, c, hq k (by simp [V.ids]) _ h1, h2⟩
  | .ar k, x, hq, h => by rw [V.ren] at h; rw [V.Is] at h ⊢; exact hq k (by simp [V.ids]) _ h
  | .ag cs, x, hq, h => by rw [V.ren] at h; rw [V.Is] at h ⊢; obtain ⟨xs, h1, h2⟩ := h; exact ⟨xs, h1, V.IsL.unren cs _ (by rw [V.ids] at hq; exact hq) h2⟩
  | .tp cs, x, hq, h => by rw [V.ren] at h; rw [V.Is] at h ⊢; obtain ⟨xs, h1, h2⟩ := h; exact ⟨xs, h1, V.IsL.unren cs _ (by rw [V.ids] at hq; exact hq) h2⟩
  | .fn f cs, x, hq, h => by rw [V.ren] at h; rw [V.Is] at h ⊢; obtain ⟨xs, h1, h2⟩ := h; exact ⟨xs, h1, V.IsL.unren cs _ (by rw [V.ids] at hq; exact hq) h2⟩
theorem V.IsL.unren {G : Im} {X Y : Xm} {q : Nat → Nat} : ∀ (vs : List V) (xs : List Value), (∀ k ∈ V.idsL vs, ∀ y, Y (q k) = some y → X k = some y) → V.IsL G Y (V.renL q vs) xs → V.IsL G X vs xs
  | [], xs, _, h => by rw [V.renL] at h; rw [V.IsL] at h ⊢; exact h
  | v :: vs, xs, hq, h => by
    rw [V.renL] at h; rw [V.IsL] at h ⊢
    obtain ⟨y, ys, h1, h2, h3⟩ := h
    exact ⟨y, ys, h1, V.Is.unren v y (fun k hk => hq k (by simp [V.idsL, hk])) h2, V.IsL.unren vs ys (fun k hk => hq k (by simp [V.idsL, hk])) h3⟩
end

/-- The call of f with these values, of which some are references to the objects os, answers r, and leaves the objects os'. -/
def AC (P : Program) (f : FuncId) (args : List V) (os : Nat → Ob) (r : V) (os' : Nat → Ob) : Prop :=
  (∃ fn, P.funcs[f]? = some fn ∧ fn.body.isSome = true ∧ (fn.name == "runtime.NumGoroutine") = false) ∧
  ∀ (w : World) (G : Im) (X : Xm) (own : Nat → Prop) (xs : List Value), Mem P ⟨w, G, own, X⟩ os w G X → V.IsL G X args xs →
    Calls P f xs.toArray w fun e w' => ∃ x G' X', e = .returned x ∧ Mem P ⟨w, G, own, X⟩ os' w' G' X' ∧ V.Is G' X' r x

/-- Names of objects: the callee's, and ours. -/
def qOf : List (Nat × Nat) → Nat → Nat
  | [], k => k
  | (a, b) :: r, k => if k = a then b else qOf r k
theorem qOf_mem : ∀ {D : List (Nat × Nat)} {k j : Nat}, (D.map (·.1)).Nodup → (k, j) ∈ D → qOf D k = j
  | (a, b) :: r, k, j, hn, h => by
    simp at hn h
    unfold qOf
    rcases h with ⟨rfl, rfl⟩ | h
    · simp
    · rw [if_neg (by rintro rfl; exact hn.1 j h)]; exact qOf_mem hn.2 h

def Pass (m : Nat → Ob) (q : Nat → Nat) (ks : List Nat) (os : Nat → Ob) (v c : V) : Prop :=
  (c.ren q = v ∧ ∀ k ∈ c.ids, os k ≠ .no) ∨ (∃ t, toT m v = some t ∧ c = .t t ∧ ∀ k ∈ fz v, k ∈ ks) ∨ (∃ vs ts, v = .ag vs ∧ toTs m vs = some ts ∧ c = .ag (ts.map .t) ∧ ∀ k ∈ vs.flatMap fz, k ∈ ks)
def PassL (m : Nat → Ob) (q : Nat → Nat) (ks : List Nat) (os : Nat → Ob) : List V → List V → Prop
  | [], [] => True
  | v :: vs, c :: cs => Pass m q ks os v c ∧ PassL m q ks os vs cs
  | _, _ => False

def leave (os' : Nat → Ob) (q : Nat → Nat) (D : List (Nat × Nat)) : List (Nat × Ob) := D.map fun p => (p.2, match os' p.1 with | .no => .dead | o => o.ren q)

theorem app_mem : ∀ (u : List (Nat × Ob)) (m : Nat → Ob) (j : Nat) (o : Ob), (u.map (·.1)).Nodup → (j, o) ∈ u → app m u j = o
  | (a, b) :: r, m, j, o, hn, h => by
    simp at hn h
    rw [app]
    rcases h with ⟨rfl, rfl⟩ | h
    · have : ∀ (u : List (Nat × Ob)) (m : Nat → Ob), (∀ o, (j, o) ∉ u) → app m u j = m j := by
        intro u
        induction u with
        | nil => intro m _; rfl
        | cons x u ih =>
          obtain ⟨a, b⟩ := x
          intro m hu
          rw [app, ih _ (fun o ho => hu o (by simp [ho])), upd_ne _ _ _ (fun e => hu b (by simp [e]))]
      rw [this r _ (fun o ho => hn.1 o ho), upd_same]
    · exact app_mem r _ j o hn.2 h
theorem app_notMem : ∀ (u : List (Nat × Ob)) (m : Nat → Ob) (j : Nat), j ∉ u.map (·.1) → app m u j = m j
  | [], _, _, _ => rfl
  | (a, b) :: r, m, j, h => by
    simp at h
    rw [app, app_notMem r _ j (by simpa using h.2), upd_ne _ _ _ h.1]

section
variable {P : Program} {C : Cx} {m : Nat → Ob} {w : World} {G : Im} {X : Xm}

theorem Pass.is (hM : Mem P C m w G X) {q : Nat → Nat} {ks : List Nat} {os : Nat → Ob} {v c : V} {x : Value} (h : Pass m q ks os v c) (hun : ∀ k ∈ ks, unmut m k) {Xc : Xm} (hX : ∀ k, os k ≠ .no → ∀ y, X (q k) = some y → Xc k = some y) (hi : V.Is G X v x) : V.Is G Xc c x := by
  rcases h with ⟨h1, h2⟩ | ⟨t, h1, rfl, h3⟩ | ⟨vs, ts, rfl, h1, rfl, h3⟩
  · exact V.Is.unren c x (fun k hk => hX k (h2 k hk)) (by rw [h1]; exact hi)
  · rw [V.Is]; exact toT_is hM h1 (fun k hk => hun k (h3 k hk)) hi
  · rw [V.Is] at hi ⊢
    obtain ⟨xs, hx, hl⟩ := hi
    obtain ⟨h4, h5⟩ := toTs_is hM h1 (fun k hk => hun k (h3 k hk)) hl
    refine ⟨xs, hx, V.IsL.of_get (by simp [← h4]) fun j v hv => ?_⟩
    rw [List.getElem?_map] at hv
    cases ht : ts[j]? with
    | none => rw [ht] at hv; simp at hv
    | some t => rw [ht] at hv; simp at hv; subst hv; obtain ⟨y, hy, hi⟩ := h5.get j t ht; exact ⟨y, hy, by rw [V.Is]; exact hi⟩

theorem PassL.is (hM : Mem P C m w G X) {q : Nat → Nat} {ks : List Nat} {os : Nat → Ob} (hun : ∀ k ∈ ks, unmut m k) {Xc : Xm} (hX : ∀ k, os k ≠ .no → ∀ y, X (q k) = some y → Xc k = some y) : ∀ {vs cs : List V} {xs : List Value}, PassL m q ks os vs cs → V.IsL G X vs xs → V.IsL G Xc cs xs
  | [], [], xs, _, h => by rw [V.IsL] at h ⊢; exact h
  | v :: vs, c :: cs, xs, h, hi => by
    rw [V.IsL] at hi ⊢
    obtain ⟨y, ys, h1, h2, h3⟩ := hi
    exact ⟨y, ys, h1, Pass.is hM h.1 hun hX h2, PassL.is hM hun hX h.2 h3⟩
  | [], _ :: _, _, h, _ => h.elim
  | _ :: _, [], _, h, _ => h.elim

theorem Ob.ren_ids_Ok {o : Ob} {x : Value} {Xc : Xm} {q : Nat → Nat} (hq : ∀ k ∈ o.ids, ∀ y, X (q k) = some y → Xc k = some y) (h : Ob.Ok P G X w (o.ren q) x) : Ob.Ok P G Xc w o x := by
  cases o with
  | box cs =>
    obtain ⟨b, cur, e, h1, h2, h3, h4⟩ := h
    exact ⟨b, cur, e, h1, h2, V.IsL.unren cs _ (fun k hk => hq k hk) h3, h4⟩
  | _ => exact h
theorem Ob.Ok_ren {o : Ob} {x : Value} {Y : Xm} {q : Nat → Nat} (hq : ∀ k ∈ o.ids, ∀ y, X k = some y → Y (q k) = some y) (h : Ob.Ok P G X w o x) : Ob.Ok P G Y w (o.ren q) x := by
  cases o with
  | box cs =>
    obtain ⟨b, cur, e, h1, h2, h3, h4⟩ := h
    exact ⟨b, cur, e, h1, h2, V.IsL.ren cs _ (fun k hk => hq k hk) h3, h4⟩
  | _ => exact h
theorem Ob.blk_ren (o : Ob) (q : Nat → Nat) (x : Value) : (o.ren q).blk x = o.blk x := by
  cases o <;> first | rfl | (cases x <;> first | rfl | (rename_i a; cases a <;> rfl))
theorem Ob.ren_no {o : Ob} {q : Nat → Nat} : o.ren q = .no ↔ o = .no := by cases o <;> simp [Ob.ren]

/-- The memory as the callee sees it. -/
theorem Mem.hand (hM : Mem P C m w G X) {D : List (Nat × Nat)} {os : Nat → Ob} (hD1 : (D.map (·.1)).Nodup) (hD2 : (D.map (·.2)).Nodup) (hdom : ∀ k, os k ≠ .no → k ∈ D.map (·.1))
    (hos : ∀ p ∈ D, os p.1 ≠ .no → m p.2 = (os p.1).ren (qOf D) ∧ ∀ k ∈ (os p.1).ids, os k ≠ .no) :
    Mem P ⟨w, G, fun b => ∃ k x, X (qOf D k) = some x ∧ os k ≠ .no ∧ (os k).blk x = some b, fun k => match os k with | .no => none | _ => X (qOf D k)⟩ os w G (fun k => match os k with | .no => none | _ => X (qOf D k)) := by
  have hX : ∀ k y, (match os k with | .no => none | _ => X (qOf D k)) = some y → os k ≠ .no ∧ X (qOf D k) = some y := by
    intro k y h
    cases ho : os k <;> rw [ho] at h <;> simp at h <;> exact ⟨by simp, h⟩
  have hX' : ∀ k, os k ≠ .no → (match os k with | .no => none | _ => X (qOf D k)) = X (qOf D k) := by
    intro k h; cases ho : os k <;> simp_all
  have hmem : ∀ k, os k ≠ .no → (k, qOf D k) ∈ D := by
    intro k h
    obtain ⟨p, hp, hk⟩ := List.mem_map.1 (hdom k h)
    obtain ⟨a, b⟩ := p
    simp at hk; subst hk
    rw [qOf_mem hD1 hp]; exact hp
  refine ⟨Gle.refl G, fun _ _ _ => rfl, hM.gok, Keeps.refl _ w, ?_, ?_, ?_, ?_, ?_, fun _ _ h => h⟩
  · intro k x hx
    obtain ⟨h1, h2⟩ := hX k x hx
    obtain ⟨h3, h4⟩ := hos _ (hmem k h1) h1
    have ho := hM.ob _ _ h2
    simp only at h3
    rw [h3] at ho
    exact Ob.ren_ids_Ok (fun j hj y hy => by rw [hX' j (h4 j hj)]; exact hy) ho
  · intro k
    constructor
    · intro h
      cases ho : os k with
      | no => rfl
      | _ =>
        have hne : os k ≠ .no := by rw [ho]; simp
        rw [hX' k hne] at h
        have := (hM.free _).1 h
        rw [(hos _ (hmem k hne) hne).1] at this
        exact absurd (Ob.ren_no.1 this) hne
    · intro h; rw [h]
  · intro k k' x x' b hx hx' hb hb'
    obtain ⟨h1, h2⟩ := hX k x hx
    obtain ⟨h1', h2'⟩ := hX k' x' hx'
    have e1 := (hos _ (hmem k h1) h1).1
    have e2 := (hos _ (hmem k' h1') h1').1
    simp only at e1 e2
    have := hM.apart _ _ _ _ b h2 h2' (by rw [e1, Ob.blk_ren]; exact hb) (by rw [e2, Ob.blk_ren]; exact hb')
    have hp := hmem k h1
    have hp' := hmem k' h1'
    rw [this] at hp
    -- the second names are distinct
    have inj : ∀ (D : List (Nat × Nat)), (D.map (·.2)).Nodup → ∀ a b c, (a, c) ∈ D → (b, c) ∈ D → a = b := by
      intro D
      induction D with
      | nil => intro _ a b c h; simp at h
      | cons d D ih =>
        intro hn a b c ha hb
        obtain ⟨d1, d2⟩ := d
        simp at hn ha hb
        rcases ha with ⟨rfl, rfl⟩ | ha <;> rcases hb with ⟨rfl, h5⟩ | hb
        · rfl
        · exact absurd hb (hn.1 b)
        · subst h5; exact absurd ha (hn.1 a)
        · exact ih hn.2 a b c ha hb
    exact inj D hD2 k k' _ hp hp'
  · intro k x b hx hb
    obtain ⟨h1, h2⟩ := hX k x hx
    exact .inl ⟨k, x, h2, h1, hb⟩
  · intro k x hx
    obtain ⟨h1, h2⟩ := hX k x hx
    exact hM.cell _ _ h2
end
end Go.Abs
