/- New names for arrays, wherever they are spoken of. -/
import Derived.Test.YtgicgbokgmmgdaaAbsYb
set_option linter.unusedSimpArgs false
set_option linter.unusedVariables false
namespace Go.Abs
section
variable {P : Program} {C : Cx} {n : Nat} {s : Nat → V} {m : Nat → Ob} {w : World} {G : Im} {X : Xm}
theorem blk_dead (x : Value) : Ob.blk .dead x = none := by cases x <;> rfl
theorem Mem.alias (hM : Mem P C m w G X) {a b : Nat} {es : List (List T)} {e : TypeId} {md : Bool} {v : Value} (ha : m a = .arr es e md) (hX : X a = some v) (hb : m b = .no) : Mem P C (upd (upd m a .dead) b (.arr es e md)) w G (upd X b (some v)) ∧ Xle X (upd X b (some v)) := by
  have hXb : X b = none := (hM.free b).2 hb
  have hab : a ≠ b := fun h => by rw [h, hb] at ha; cases ha
  have hle := Xle_upd (X := X) (k := b) (x := v) hXb
  have hmo : ∀ k, k ≠ b → k ≠ a → upd (upd m a Ob.dead) b (.arr es e md) k = m k := fun k h1 h2 => by rw [upd_ne _ _ _ h1, upd_ne _ _ _ h2]
  have hma : upd (upd m a Ob.dead) b (.arr es e md) a = .dead := by rw [upd_ne _ _ _ hab, upd_same]
  have hmb : upd (upd m a Ob.dead) b (.arr es e md) b = .arr es e md := upd_same _ _ _
  refine ⟨⟨hM.gle, hM.gold, hM.gok, hM.keeps, ?_, ?_, ?_, ?_, ?_, fun k y hk => hle k y (hM.old k y hk)⟩, hle⟩
  · intro k x hk
    by_cases h1 : k = b
    · subst h1
      rw [upd_same] at hk; cases hk
      rw [hmb]
      have := hM.ob a v hX
      rw [ha] at this
      exact this
    · rw [upd_ne _ _ _ h1] at hk
      by_cases h2 : k = a
      · subst h2; rw [hma]; trivial
      · rw [hmo k h1 h2]
        exact (hM.ob k x hk).mono (Gle.refl G) hle (fun _ _ => rfl) (fun _ _ => rfl)
  · intro k
    by_cases h1 : k = b
    · subst h1; rw [hmb, upd_same]; simp
    · rw [upd_ne _ _ _ h1]
      by_cases h2 : k = a
      · subst h2; rw [hma, hX]; simp
      · rw [hmo k h1 h2]; exact hM.free k
  · intro k k' x x' bl hk hk' hb1 hb2
    have red : ∀ k x, upd X b (some v) k = some x → (upd (upd m a Ob.dead) b (.arr es e md) k).blk x = some bl → ∃ k0, X k0 = some x ∧ (m k0).blk x = some bl ∧ ((k = b ∧ k0 = a) ∨ (k ≠ b ∧ k ≠ a ∧ k0 = k)) := by
      intro k x hk hbk
      by_cases h1 : k = b
      · subst h1
        rw [upd_same] at hk; cases hk
        rw [hmb] at hbk
        exact ⟨a, hX, by rw [ha]; exact hbk, .inl ⟨rfl, rfl⟩⟩
      · rw [upd_ne _ _ _ h1] at hk
        by_cases h2 : k = a
        · subst h2; rw [hma, blk_dead] at hbk; cases hbk
        · rw [hmo k h1 h2] at hbk
          exact ⟨k, hk, hbk, .inr ⟨h1, h2, rfl⟩⟩
    obtain ⟨k1, q1, q2, q3⟩ := red k x hk hb1
    obtain ⟨k2, r1, r2, r3⟩ := red k' x' hk' hb2
    have := hM.apart k1 k2 x x' bl q1 r1 q2 r2
    rcases q3 with ⟨rfl, rfl⟩ | ⟨h1, h2, rfl⟩ <;> rcases r3 with ⟨rfl, rfl⟩ | ⟨h3, h4, rfl⟩
    · rfl
    · exact absurd this.symm h4
    · exact absurd this h2
    · exact this
  · intro k x bl hk hbk
    by_cases h1 : k = b
    · subst h1
      rw [upd_same] at hk; cases hk
      rw [hmb] at hbk
      exact hM.mine a v bl hX (by rw [ha]; exact hbk)
    · rw [upd_ne _ _ _ h1] at hk
      by_cases h2 : k = a
      · subst h2; rw [hma, blk_dead] at hbk; cases hbk
      · rw [hmo k h1 h2] at hbk; exact hM.mine k x bl hk hbk
  · intro k x hk
    by_cases h1 : k = b
    · subst h1; rw [upd_same] at hk; cases hk; exact hM.cell a v hX
    · rw [upd_ne _ _ _ h1] at hk; exact hM.cell k x hk
theorem Mem.nilArr (hM : Mem P C m w G X) {b e : Nat} {x : TypeInfo} (hb : m b = .no) (he : P.info? e = some x) : Mem P C (upd m b (.arr [] e true)) w G (upd X b (some (.slice none 0 0))) ∧ Xle X (upd X b (some (.slice none 0 0))) := by
  have hXb : X b = none := (hM.free b).2 hb
  refine ⟨⟨hM.gle, hM.gold, hM.gok, hM.keeps, ?_, ?_, ?_, ?_, ?_, fun k y hk => Xle_upd hXb k y (hM.old k y hk)⟩, Xle_upd hXb⟩
  · intro k y hy
    by_cases hk : k = b
    · subst hk
      rw [upd_same] at hy ⊢; cases hy
      exact ⟨[], x, he, World.ownsRow_nil w _ e x.size, by rw [T.Rows]; trivial, fun a n c hx => by cases hx⟩
    · rw [upd_ne _ _ _ hk] at hy ⊢
      exact (hM.ob k y hy).mono (Gle.refl G) (Xle_upd hXb) (fun _ _ => rfl) (fun _ _ => rfl)
  · intro k
    by_cases hk : k = b
    · subst hk; simp [upd_same]
    · rw [upd_ne _ _ _ hk, upd_ne _ _ _ hk]; exact hM.free k
  · intro k k' y y' bl hy hy' h1 h2
    by_cases hk : k = b
    · subst hk; rw [upd_same] at hy; cases hy; rw [upd_same] at h1; simp only [Ob.blk] at h1; cases h1
    · by_cases hk' : k' = b
      · subst hk'; rw [upd_same] at hy'; cases hy'; rw [upd_same] at h2; simp only [Ob.blk] at h2; cases h2
      · rw [upd_ne _ _ _ hk] at hy h1; rw [upd_ne _ _ _ hk'] at hy' h2
        exact hM.apart k k' y y' bl hy hy' h1 h2
  · intro k y bl hy h1
    by_cases hk : k = b
    · subst hk; rw [upd_same] at hy; cases hy; rw [upd_same] at h1; simp only [Ob.blk] at h1; cases h1
    · rw [upd_ne _ _ _ hk] at hy h1
      exact hM.mine k y bl hy h1
  · intro k y hy
    by_cases hk : k = b
    · subst hk; rw [upd_same] at hy; cases hy; rfl
    · rw [upd_ne _ _ _ hk] at hy; exact hM.cell k y hy

def CRel (v v' : V) : List V → List V → Prop
  | [], [] => True
  | c :: cs, d :: ds => (c = d ∨ (c = v ∧ d = v')) ∧ CRel v v' cs ds
  | _, _ => False
theorem crel_nil {v v' : V} : CRel v v' [] [] := trivial
theorem crel_same {v v' c : V} {cs ds : List V} (h : CRel v v' cs ds) : CRel v v' (c :: cs) (c :: ds) := ⟨.inl rfl, h⟩
theorem crel_new {v v' : V} {cs ds : List V} (h : CRel v v' cs ds) : CRel v v' (v :: cs) (v' :: ds) := ⟨.inr ⟨rfl, rfl⟩, h⟩
theorem crel_is {G : Im} {X : Xm} {v v' : V} (hv : ∀ x, V.Is G X v x → V.Is G X v' x) : ∀ {cs ds : List V} {xs : List Value}, CRel v v' cs ds → V.IsL G X cs xs → V.IsL G X ds xs
  | [], [], _, _, h => h
  | c :: cs, d :: ds, xs, h, hi => by
    rw [V.IsL] at hi ⊢
    obtain ⟨y, ys, h1, h2, h3⟩ := hi
    refine ⟨y, ys, h1, ?_, crel_is hv h.2 h3⟩
    rcases h.1 with rfl | ⟨rfl, rfl⟩
    · exact h2
    · exact hv y h2
  | [], _ :: _, _, h, _ => h.elim
  | _ :: _, [], _, h, _ => h.elim
theorem Mem.box_re (hM : Mem P C m w G X) {k : Nat} {cs ds : List V} {v v' : V} (hk : m k = .box cs) (hv : ∀ x, V.Is G X v x → V.Is G X v' x) (hr : CRel v v' cs ds) : Mem P C (upd m k (.box ds)) w G X :=
  Mem.less hM k (.box ds) (fun x hx hok => by
    rw [hk] at hok
    obtain ⟨b, cur, e, h1, h2, h3, h4⟩ := hok
    exact ⟨b, cur, e, h1, h2, crel_is hv hr h3, h4⟩) (fun x b h => by rw [hk]; cases x <;> first | exact h | (rename_i a; cases a <;> exact h)) ⟨fun h => by simp at h, fun h => by rw [hk] at h; cases h⟩

variable {Q : Exit → St → Prop} {c : Code}
/-- An array in a cell of a box gets a new name. -/
theorem awp_mvB {es : List (List T)} {e : TypeId} {md : Bool} {cs : List V} (k a b : Nat) (ds : List V) (h : AWP P C n c Q ⟨s, upd (upd (upd m a .dead) b (.arr es e md)) k (.box ds)⟩)
    (hk : m k = .box cs := by conv => lhs; whnf) (ha : m a = .arr es e md := by conv => lhs; whnf) (hb : isNo (m b) = true := by rfl) (hr : CRel (.ar a) (.ar b) cs ds := by repeat (first | exact crel_nil | refine crel_new ?_ | refine crel_same ?_)) : AWP P C n c Q ⟨s, m⟩ := by
  refine awp_weak ?_ h
  rintro x w ⟨G, X, hM, hd, hsz, ht⟩
  replace hM : Mem P C m w G X := hM
  cases hX : X a with
  | none => rw [(hM.free a).1 hX] at ha; cases ha
  | some v =>
    have hb' := isNo_eq hb
    obtain ⟨hM', hle⟩ := hM.alias ha hX hb'
    have hka : k ≠ a := fun h => by rw [h, ha] at hk; cases hk
    have hkb : k ≠ b := fun h => by rw [h, hb'] at hk; cases hk
    refine ⟨G, _, hM'.box_re (k := k) (cs := cs) (by rw [upd_ne _ _ _ hkb, upd_ne _ _ _ hka]; exact hk) (fun y hy => ?_) hr, hd, hsz, fun t htn => V.Is.mono (Gle.refl G) hle _ _ (ht t htn)⟩
    rw [V.Is] at hy ⊢
    have hab : a ≠ b := fun h => by rw [h, hb'] at ha; cases ha
    rw [upd_ne _ _ _ hab, hX] at hy
    rw [upd_same]; exact hy
/-- A nil slice in a cell of a box is an array of one's own without elements. -/
theorem awp_ownB {x : TypeInfo} {cs : List V} (k b e : Nat) (ds : List V) (he : P.info? e = some x) (h : AWP P C n c Q ⟨s, upd (upd m b (.arr [] e true)) k (.box ds)⟩)
    (hk : m k = .box cs := by conv => lhs; whnf) (hb : isNo (m b) = true := by rfl) (hr : CRel .nl (.ar b) cs ds := by repeat (first | exact crel_nil | refine crel_same ?_ | refine crel_new ?_)) : AWP P C n c Q ⟨s, m⟩ := by
  refine awp_weak ?_ h
  rintro y w ⟨G, X, hM, hd, hsz, ht⟩
  replace hM : Mem P C m w G X := hM
  have hb' := isNo_eq hb
  obtain ⟨hM', hle⟩ := hM.nilArr hb' he
  have hkb : k ≠ b := fun h => by rw [h, hb'] at hk; cases hk
  refine ⟨G, _, hM'.box_re (k := k) (cs := cs) (by rw [upd_ne _ _ _ hkb]; exact hk) (fun y hy => ?_) hr, hd, hsz, fun t htn => V.Is.mono (Gle.refl G) hle _ _ (ht t htn)⟩
  rw [V.Is] at hy
  rw [V.Is, upd_same, hy]
/-- A box's array cell is from now on a value that does not change. -/
theorem awp_fzB {es : List (List T)} {e : TypeId} {cs : List V} (k a : Nat) (ds : List V) (h : AWP P C n c Q ⟨s, upd (upd m a (.arr es e false)) k (.box ds)⟩)
    (hk : m k = .box cs := by conv => lhs; whnf) (ha : m a = .arr es e true := by conv => lhs; whnf) (hr : CRel (.ar a) (.t (.sl es)) cs ds := by repeat (first | exact crel_nil | refine crel_new ?_ | refine crel_same ?_)) : AWP P C n c Q ⟨s, m⟩ := by
  refine awp_weak ?_ h
  rintro y w ⟨G, X, hM, hd, hsz, ht⟩
  replace hM : Mem P C m w G X := hM
  cases hX : X a with
  | none => rw [(hM.free a).1 hX] at ha; cases ha
  | some v =>
    obtain ⟨G', hG, hM'⟩ := hM.freeze ha hX
    have hka : k ≠ a := fun h => by rw [h, ha] at hk; cases hk
    refine ⟨G', X, hM'.box_re (k := k) (cs := cs) (by rw [upd_ne _ _ _ hka]; exact hk) (fun y hy => ?_) hr, hd, hsz, fun t htn => V.Is.mono hG (Xle.refl X) _ _ (ht t htn)⟩
    refine toT_is hM' (v := .ar a) (by simp [toT, upd]) ?_ hy
    intro j hj
    simp [fz] at hj; subst hj
    intro es' e' he
    simp [upd] at he
/-- A slot's array, nil or own, is from now on a value that does not change. -/
theorem awp_pz {v : V} {es : List (List T)} {u : List (Nat × Ob)} {m1 : Nat → Ob} (t : Nat) (h : AWP P C n c Q ⟨upd s t (.t (.sl es)), m1⟩) (hs : s t = v := by conv => lhs; whnf) (hv : toT m v = some (.sl es) := by conv => lhs; whnf)
    (hu : fzU m (fz v) = u := by repeat (first | exact fzU_nil | (apply fzU_cons; focus ((conv => lhs; whnf); done)) | (apply fzU_skip; focus ((conv => lhs; whnf); done)))) (hm1 : app m u = m1 := by simp only [app]; rfl) : AWP P C n c Q ⟨s, m⟩ := by
  subst hu; subst hm1
  refine awp_weak ?_ h
  rintro y w ⟨G, X, hM, hd, hsz, ht⟩
  replace hM : Mem P C m w G X := hM
  replace ht : ∀ t, t < n → V.Is G X (s t) (y.eval (.tmp t)) := ht
  obtain ⟨G', hG, hM'⟩ := hM.freezeL (fz v)
  refine ⟨G', X, hM', hd, hsz, fun i hi => ?_⟩
  by_cases hit : i = t
  · subst hit
    simp only [upd_same]
    rw [V.Is]
    exact toT_is hM' (v := v) (by rw [toT_fz]; exact hv) (fun k hk => unmut_fzU _ _ _ (.inr hk)) (by rw [← hs]; exact V.Is.mono hG (Xle.refl X) _ _ (ht i hi))
  · simp only [upd_ne _ _ _ hit]; exact V.Is.mono hG (Xle.refl X) _ _ (ht i hi)
end
end Go.Abs
