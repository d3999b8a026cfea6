/- Calls with objects, and steps between statements. -/
import Derived.Test.YtgicgbokgmmgdaaAbsY
set_option linter.unusedSimpArgs false
set_option linter.unusedVariables false
namespace Go.Abs
section
variable {P : Program} {n : Nat}
variable {ops : Array Oper} {K : List (Nat × Oper × Ev) → St → Prop} {r : List (Oper × Nat)} {acc : List (Nat × Oper × Ev)} {s : Nat → V} {m : Nat → Ob} {d ix : Nat} {ty : TypeId} {pos : String} {after : Array Edge} {g : Option (Nat × Bool)}

def HosL (m1 : Nat → Ob) (L : List (Nat × Ob)) (q : Nat → Nat) : List (Nat × Nat) → Prop
  | [] => True
  | (a, b) :: D => ((isNo (objs L a) = true ∧ isNo (m1 b) = true) ∨ (m1 b = (objs L a).ren q ∧ (objs L a).ids.all (fun k => !isNo (objs L k)) = true ∧ isNo (objs L a) = false)) ∧ HosL m1 L q D
theorem hosL_nil {m1 : Nat → Ob} {L : List (Nat × Ob)} {q : Nat → Nat} : HosL m1 L q [] := trivial
theorem hosL_cons {m1 : Nat → Ob} {L : List (Nat × Ob)} {q : Nat → Nat} {a b : Nat} {D : List (Nat × Nat)} (h1 : m1 b = (objs L a).ren q) (h2 : (objs L a).ids.all (fun k => !isNo (objs L k)) = true) (h3 : isNo (objs L a) = false) (h : HosL m1 L q D) : HosL m1 L q ((a, b) :: D) := ⟨.inr ⟨h1, h2, h3⟩, h⟩
theorem hosL_new {m1 : Nat → Ob} {L : List (Nat × Ob)} {q : Nat → Nat} {a b : Nat} {D : List (Nat × Nat)} (h1 : isNo (objs L a) = true) (h2 : isNo (m1 b) = true) (h : HosL m1 L q D) : HosL m1 L q ((a, b) :: D) := ⟨.inl ⟨h1, h2⟩, h⟩
theorem hosL_mem {m1 : Nat → Ob} {L : List (Nat × Ob)} {q : Nat → Nat} : ∀ {D : List (Nat × Nat)}, HosL m1 L q D → ∀ p ∈ D, (isNo (objs L p.1) = true ∧ isNo (m1 p.2) = true) ∨ (m1 p.2 = (objs L p.1).ren q ∧ (objs L p.1).ids.all (fun k => !isNo (objs L k)) = true ∧ isNo (objs L p.1) = false)
  | [], _, p, hp => by cases hp
  | (a, b) :: D, h, p, hp => by
    rcases List.mem_cons.1 hp with rfl | hp
    · exact h.1
    · exact hosL_mem h.2 p hp
theorem isNo_iff {o : Ob} : isNo o = false ↔ o ≠ .no := by cases o <;> simp [isNo]
theorem objs_dom : ∀ (l : List (Nat × Ob)) (i : Nat), objs l i ≠ .no → i ∈ l.map (·.1)
  | [], i, h => absurd rfl h
  | (j, o) :: l, i, h => by
    rw [objs_cons] at h
    by_cases hij : i = j
    · simp [hij]
    · rw [if_neg hij] at h; simp only [List.map_cons, List.mem_cons]; exact .inr (objs_dom l i h)
theorem leave_nil {os' : Nat → Ob} {q : Nat → Nat} : leave os' q [] = [] := rfl
theorem leave_cons {os' : Nat → Ob} {q : Nat → Nat} {a b : Nat} {D : List (Nat × Nat)} {o o' : Ob} {lv : List (Nat × Ob)} (h1 : os' a = o) (h2 : isNo o = false) (h3 : o.ren q = o') (h : leave os' q D = lv) : leave os' q ((a, b) :: D) = (b, o') :: lv := by
  subst h1; subst h3; subst h
  simp only [leave, List.map_cons]
  cases hh : os' a <;> simp_all [isNo]
theorem passL_nil {m : Nat → Ob} {q : Nat → Nat} {ks : List Nat} {os : Nat → Ob} : PassL m q ks os [] [] := trivial
theorem passL_cons {m : Nat → Ob} {q : Nat → Nat} {ks : List Nat} {os : Nat → Ob} {v c : V} {vs cs : List V} (h : Pass m q ks os v c) (h2 : PassL m q ks os vs cs) : PassL m q ks os (v :: vs) (c :: cs) := ⟨h, h2⟩
theorem pass_ren {m : Nat → Ob} {q : Nat → Nat} {ks : List Nat} {L : List (Nat × Ob)} {v c : V} (h1 : c.ren q = v) (h2 : c.ids.all (fun k => !isNo (objs L k)) = true) : Pass m q ks (objs L) v c := .inl ⟨h1, fun k hk => by
  rw [List.all_eq_true] at h2
  have := h2 k hk
  exact isNo_iff.1 (by simpa using this)⟩
theorem pass_T {m : Nat → Ob} {q : Nat → Nat} {ks : List Nat} {os : Nat → Ob} {v : V} {t : T} (h1 : toT m v = some t) (h2 : (fz v).all (fun k => ks.elem k) = true) : Pass m q ks os v (.t t) := .inr (.inl ⟨t, h1, rfl, fun k hk => by
  rw [List.all_eq_true] at h2; simpa using h2 k hk⟩)
theorem pass_Ts {m : Nat → Ob} {q : Nat → Nat} {ks : List Nat} {os : Nat → Ob} {vs cs : List V} {ts : List T} (h1 : toTs m vs = some ts) (hc : ts.map .t = cs) (h2 : (vs.flatMap fz).all (fun k => ks.elem k) = true) : Pass m q ks os (.ag vs) (.ag cs) := .inr (.inr ⟨vs, ts, rfl, h1, by rw [hc], fun k hk => by
  rw [List.all_eq_true] at h2; simpa using h2 k hk⟩)

/-- A call. D: the callee's names and ours. -/
theorem s_call {c : Call} {fop : Operand} {f : FuncId} {caps : List V} {cargs avs : List V} {m1 m2 : Nat → Ob} {rv rv' : V} {lv u : List (Nat × Ob)} {fp : List Nat} (D : List (Nat × Nat)) (ks : List Nat) (L L' : List (Nat × Ob)) (hAC : AC P f cargs (objs L) rv (objs L'))
    (hr : Run P n ops K r ((ix, ⟨some d, .call c, ty, pos, after, g⟩, ⟨rv', u ++ lv, fp⟩) :: acc) ⟨upd s d rv', m2⟩)
    (hg : guardOf n ops ⟨some d, .call c, ty, pos, after, g⟩ ⟨s, m⟩ = some true := by rfl)
    (hc : c.callee = .value fop := by rfl) (hf : ev n s fop = .fn f caps := by conv => lhs; whnf)
    (hav : c.args.toList.map (ev n s) ++ caps = avs := by repeat (first | exact args_nil | (apply args_cons; conv => lhs; whnf)))
    (hu : fzU m ks = u := by repeat (first | exact fzU_nil | (apply fzU_cons; focus ((conv => lhs; whnf); done)) | (apply fzU_skip; focus ((conv => lhs; whnf); done))))
    (hm1 : app m u = m1 := by simp only [app]; rfl)
    (hp : PassL m1 (qOf D) ks (objs L) avs cargs := by repeat (first | exact passL_nil | refine passL_cons (by first | exact pass_ren rfl rfl | exact pass_T rfl rfl | exact pass_Ts rfl rfl rfl) ?_))
    (hos : HosL m1 L (qOf D) D := by repeat (first | exact hosL_nil | refine hosL_cons rfl rfl rfl ?_ | refine hosL_new rfl rfl ?_))
    (hdom : (L.map (·.1)).all (fun k => (D.map (·.1)).elem k) = true := by rfl) (hdom' : (L'.map (·.1)).all (fun k => (D.map (·.1)).elem k) = true := by rfl)
    (hD1 : (D.map (·.1)).Nodup := by decide) (hD2 : (D.map (·.2)).Nodup := by decide) (hno' : D.all (fun p => !isNo (objs L' p.1)) = true := by rfl)
    (hrv : rv.ren (qOf D) = rv' := by first | exact V.ren_noids _ rfl | (simp only [V.ren, V.renL, qOf, Nat.reduceEqDiff, reduceIte, if_true, if_false]; rfl))
    (hlv : leave (objs L') (qOf D) D = lv := by repeat (first | exact leave_nil | (apply leave_cons; (conv => lhs; whnf); rfl; (first | exact Ob.ren_noids rfl | (simp only [Ob.ren, V.ren, V.renL, qOf, Nat.reduceEqDiff, reduceIte, if_true, if_false]; rfl)))))
    (hm2 : app m1 lv = m2 := by simp only [app]; rfl)
    (hfp : fpOf 0 (ev n s) (.call c) ++ ks ++ D.map (·.2) = fp := by rfl) : Run P n ops K ((⟨some d, .call c, ty, pos, after, g⟩, ix) :: r) acc ⟨s, m⟩ := by
  subst hav; subst hu; subst hm1; subst hfp; subst hrv; subst hlv; subst hm2
  have hno : ∀ p ∈ D, objs L' p.1 ≠ .no := fun p hp => by
    rw [List.all_eq_true] at hno'
    exact isNo_iff.1 (by simpa using hno' p hp)
  refine run_call hg ks D rfl hc hf hAC hD1 hD2 hp (fun k hk => ?_) (fun k hk => ?_) (fun p hp' hne => ?_) (fun p hp' hno0 => ?_) ?_
  · rw [List.all_eq_true] at hdom; simpa using hdom k (objs_dom _ _ hk)
  · rw [List.all_eq_true] at hdom'; simpa using hdom' k (objs_dom _ _ hk)
  · rcases hosL_mem hos p hp' with ⟨h1, _⟩ | ⟨h1, h2, _⟩
    · exact absurd (isNo_eq h1) hne
    · exact ⟨h1, fun k hk => by rw [List.all_eq_true] at h2; exact isNo_iff.1 (by simpa using h2 k hk)⟩
  · rcases hosL_mem hos p hp' with ⟨_, h1⟩ | ⟨_, _, h1⟩
    · exact ⟨isNo_eq h1, hno p hp'⟩
    · exact absurd hno0 (isNo_iff.1 h1)
  · simp only [St.put, app_append] at hr ⊢
    exact hr
/-- A call that is handed pure values and hands back pure values. -/
theorem s_pure {c : Call} {fop : Operand} {f : FuncId} {caps : List V} {cargs avs : List V} {m1 : Nat → Ob} {rv : V} {u : List (Nat × Ob)} {fp : List Nat} (ks : List Nat) (hAC : AC P f cargs noOb rv noOb)
    (hr : Run P n ops K r ((ix, ⟨some d, .call c, ty, pos, after, g⟩, ⟨rv, u, fp⟩) :: acc) ⟨upd s d rv, m1⟩)
    (hg : guardOf n ops ⟨some d, .call c, ty, pos, after, g⟩ ⟨s, m⟩ = some true := by rfl)
    (hc : c.callee = .value fop := by rfl) (hf : ev n s fop = .fn f caps := by conv => lhs; whnf)
    (hav : c.args.toList.map (ev n s) ++ caps = avs := by repeat (first | exact args_nil | (apply args_cons; conv => lhs; whnf)))
    (hu : fzU m ks = u := by repeat (first | exact fzU_nil | (apply fzU_cons; focus ((conv => lhs; whnf); done)) | (apply fzU_skip; focus ((conv => lhs; whnf); done))))
    (hm1 : app m u = m1 := by simp only [app]; rfl)
    (hp : PassL m1 (fun k => k) ks noOb avs cargs := by repeat (first | exact passL_nil | refine passL_cons (by first | exact pass_id' rfl | exact pass_T rfl rfl | exact pass_Ts rfl rfl rfl) ?_))
    (hfp : fpOf 0 (ev n s) (.call c) ++ ks = fp := by rfl) : Run P n ops K ((⟨some d, .call c, ty, pos, after, g⟩, ix) :: r) acc ⟨s, m⟩ :=
  r_pure ks hg rfl hc hf hav hu hm1 hAC hp hfp hr
end

section
variable {P : Program} {C : Cx} {n : Nat} {Q : Exit → St → Prop} {s : Nat → V} {m : Nat → Ob} {c : Code}
/-- A slice that lies in memory is not too long. -/
theorem awp_lenT {α : Type} {row : α → List T} {l : List α} (t : Nat) (h : (l.length : Int) ≤ 9223372036854775807 → AWP P C n c Q ⟨s, m⟩) (hs : s t = .t (.sl (l.map row)) := by conv => lhs; whnf) (ht : t < n := by decide) : AWP P C n c Q ⟨s, m⟩ := by
  rintro a w ⟨G, X, hM, hd, hsz, hv⟩
  refine h ?_ a w ⟨G, X, hM, hd, hsz, hv⟩
  have : V.Is G X (s t) _ := hv t ht
  rw [hs, V.Is, T.Is] at this
  obtain ⟨A, c, sz, _, h1, h2, _⟩ := this
  rw [List.length_map] at h1
  unfold maxLen at h2
  omega
theorem awp_lenA {α : Type} {row : α → List T} {l : List α} {e : TypeId} {md : Bool} (t q : Nat) (h : (l.length : Int) ≤ 9223372036854775807 → AWP P C n c Q ⟨s, m⟩) (hs : s t = .ar q := by conv => lhs; whnf) (hm : m q = .arr (l.map row) e md := by conv => lhs; whnf) (ht : t < n := by decide) : AWP P C n c Q ⟨s, m⟩ := by
  rintro a w ⟨G, X, hM, hd, hsz, hv⟩
  refine h ?_ a w ⟨G, X, hM, hd, hsz, hv⟩
  have hq : V.Is G X (s t) _ := hv t ht
  rw [hs, V.Is] at hq
  have := hM.ob q _ hq
  replace this : Ob.Ok P G X w (m q) _ := this
  rw [hm] at this
  obtain ⟨xs, i, _, hown, _⟩ := this
  rcases hown.2 with ⟨_, h0⟩ | ⟨g, cap, cur, _, _, _, h1, h2, _⟩
  · rw [List.length_map] at h0; omega
  · rw [List.length_map] at h1; unfold maxLen at h2; omega
theorem winc {i k : Int} (h : decide (i < k) = true) (hk : k ≤ 9223372036854775807) (h0 : -9223372036854775808 ≤ i) : IntKind.i64.wrap (i + 1) = i + 1 := by
  have := of_decide_eq_true h
  exact IntWalk.i64_in _ (by omega)

/-- A nil slice is an array of one's own without elements. -/
theorem weak_own {b e : Nat} {x : TypeInfo} (hb : isNo (m b) = true) (he : P.info? e = some x) (s' : Nat → V) (hs : ∀ i, s' i = s i ∨ (s i = .nl ∧ s' i = .ar b)) : Weak P C n ⟨s, m⟩ ⟨s', upd m b (.arr [] e true)⟩ := by
  rintro a w ⟨G, X, hM, hd, hsz, ht⟩
  replace hM : Mem P C m w G X := hM
  replace ht : ∀ t, t < n → V.Is G X (s t) (a.eval (.tmp t)) := ht
  have hb := isNo_eq hb
  have hXb : X b = none := (hM.free b).2 hb
  refine ⟨G, upd X b (some (.slice none 0 0)), ⟨hM.gle, hM.gold, hM.gok, hM.keeps, ?_, ?_, ?_, ?_, ?_, fun k y hk => Xle_upd hXb k y (hM.old k y hk)⟩, hd, hsz, ?_⟩
  · intro k y hy
    by_cases hk : k = b
    · subst hk
      simp only [upd_same] at hy ⊢; cases hy
      exact ⟨[], x, he, World.ownsRow_nil w _ e x.size, by rw [T.Rows]; trivial, fun a n c hx => by cases hx⟩
    · rw [upd_ne _ _ _ hk] at hy
      simp only [upd_ne _ _ _ hk]
      exact (hM.ob k y hy).mono (Gle.refl G) (Xle_upd hXb) (fun _ _ => rfl) (fun _ _ => rfl)
  · intro k
    by_cases hk : k = b
    · subst hk; simp [upd_same]
    · simp only [upd_ne _ _ _ hk]; exact hM.free k
  · intro k k' y y' bl hy hy' h1 h2
    by_cases hk : k = b
    · subst hk; rw [upd_same] at hy; cases hy; simp only [upd_same, Ob.blk] at h1; cases h1
    · by_cases hk' : k' = b
      · subst hk'; rw [upd_same] at hy'; cases hy'; simp only [upd_same, Ob.blk] at h2; cases h2
      · rw [upd_ne _ _ _ hk] at hy; rw [upd_ne _ _ _ hk'] at hy'
        simp only [upd_ne _ _ _ hk] at h1; simp only [upd_ne _ _ _ hk'] at h2
        exact hM.apart k k' y y' bl hy hy' h1 h2
  · intro k y bl hy h1
    by_cases hk : k = b
    · subst hk; rw [upd_same] at hy; cases hy; simp only [upd_same, Ob.blk] at h1; cases h1
    · rw [upd_ne _ _ _ hk] at hy; simp only [upd_ne _ _ _ hk] at h1
      exact hM.mine k y bl hy h1
  · intro k y hy
    by_cases hk : k = b
    · subst hk; rw [upd_same] at hy; cases hy; rfl
    · rw [upd_ne _ _ _ hk] at hy; exact hM.cell k y hy
  · intro t htn
    rcases hs t with h | ⟨h1, h2⟩
    · simp only [h]; exact V.Is.mono (Gle.refl G) (Xle_upd hXb) _ _ (ht t htn)
    · simp only [h2]
      have := ht t htn
      rw [h1, V.Is] at this
      rw [V.Is, upd_same, this]
theorem awp_own {x : TypeInfo} (t b e : Nat) (he : P.info? e = some x) (h : AWP P C n c Q ⟨upd s t (.ar b), upd m b (.arr [] e true)⟩) (hs : s t = .nl := by conv => lhs; whnf) (hb : isNo (m b) = true := by rfl) : AWP P C n c Q ⟨s, m⟩ :=
  awp_weak (weak_own hb he _ (fun i => by
    by_cases hi : i = t
    · subst hi; exact .inr ⟨hs, upd_same _ _ _⟩
    · exact .inl (upd_ne _ _ _ hi))) h
end
end Go.Abs
namespace Go.Abs
section
variable {P : Program} {n : Nat}
theorem giveL_nil {m : Nat → Ob} {ks : List Nat} : GiveL m ks [] [] := trivial
theorem giveL_cons {m : Nat → Ob} {ks : List Nat} {v r : V} {vs rs : List V} (h : Give1 m ks v r) (h2 : GiveL m ks vs rs) : GiveL m ks (v :: vs) (r :: rs) := ⟨h, h2⟩
theorem give_T {m : Nat → Ob} {ks : List Nat} {v : V} {t : T} (h1 : toT m v = some t) (h2 : (fz v).all (fun k => ks.elem k) = true) : Give1 m ks v (.t t) := .inr (.inl ⟨t, h1, rfl, fun k hk => by
  rw [List.all_eq_true] at h2; simpa using h2 k hk⟩)
theorem give_Ts {m : Nat → Ob} {ks : List Nat} {vs cs : List V} {ts : List T} (h1 : toTs m vs = some ts) (hc : ts.map .t = cs) (h2 : (vs.flatMap fz).all (fun k => ks.elem k) = true) : Give1 m ks (.ag vs) (.ag cs) := .inr (.inr ⟨vs, ts, rfl, h1, by rw [hc], fun k hk => by
  rw [List.all_eq_true] at h2; simpa using h2 k hk⟩)
/-- The end of a function: what it hands back (rs), and the objects that it leaves (L'). -/
theorem ends_gen {fn : Func} {rs vs : List V} {s' : Nat → V} {m' m1 : Nat → Ob} {u : List (Nat × Ob)} (L' : List (Nat × Ob)) (ks : List Nat) (h1 : resOf P n ⟨s', m'⟩ fn.results.toList = some vs)
    (hu : fzU m' ks = u := by repeat (first | exact fzU_nil | (apply fzU_cons; focus ((conv => lhs; whnf); done)) | (apply fzU_skip; focus ((conv => lhs; whnf); done))))
    (hm1 : app m' u = m1 := by simp only [app]; rfl)
    (h2 : GiveL m1 ks vs rs := by repeat (first | exact giveL_nil | refine giveL_cons (by first | exact .inl rfl | exact give_T rfl rfl | exact give_Ts rfl rfl rfl) ?_))
    (ho : HasO m1 L' := by repeat (first | exact hasO_nil | refine hasO_cons (by conv => lhs; whnf) (by rfl) ?_))
    (hi : L'.all (fun p => p.2.ids.all (fun j => (L'.map (·.1)).elem j)) = true := by rfl)
    (hr : (V.idsL rs).all (fun k => (L'.map (·.1)).elem k) = true := by rfl) : Ends P n fn rs (objs L') ⟨s', m'⟩ := by
  subst hu; subst hm1
  have hspec : ∀ k, k ∈ L'.map (·.1) → objs L' k = app m' (fzU m' ks) k := fun k hk => hasO_spec ho k hk
  have hids : ∀ (l : List (Nat × Ob)) (k : Nat), k ∈ l.map (·.1) → ∃ p ∈ l, p.1 = k ∧ objs l k = p.2 := by
    intro l
    induction l with
    | nil => intro k hk; cases hk
    | cons p l ih =>
      intro k hk
      obtain ⟨j, o⟩ := p
      by_cases hkj : k = j
      · exact ⟨(j, o), by simp, hkj.symm, by rw [objs_cons, if_pos hkj]⟩
      · obtain ⟨p, h1, h2, h3⟩ := ih k (by simp [hkj] at hk; simpa using hk)
        exact ⟨p, by simp [h1], h2, by rw [objs_cons, if_neg hkj, h3]⟩
  refine ⟨vs, ks, L'.map (·.1), h1, h2, fun k => ?_, fun k hk j hj => ?_, fun k hk => ?_⟩
  · split
    · rename_i h; exact hspec k h
    · rename_i h
      cases ho' : objs L' k with
      | no => rfl
      | _ => exact absurd (objs_dom L' k (by rw [ho']; simp)) h
  · rw [← hspec k hk] at hj
    obtain ⟨p, hp, _, he⟩ := hids L' k hk
    rw [he] at hj
    rw [List.all_eq_true] at hi
    have := hi p hp
    rw [List.all_eq_true] at this
    simpa using this j hj
  · rw [List.all_eq_true] at hr
    simpa using hr k hk
theorem keep_all {L L' : List (Nat × Ob)} (h : (L.map (·.1)).all (fun k => !isNo (objs L' k)) = true) : ∀ k, objs L k ≠ .no → objs L' k ≠ .no := fun k hk => by
  rw [List.all_eq_true] at h
  exact isNo_iff.1 (by simpa using h k (objs_dom L k hk))
theorem objs_nil_eq : objs [] = noOb := rfl
end
end Go.Abs
namespace Go.Abs
theorem winc2 {i k : Int} (h : decide (i < k) = true) (hk : k ≤ 9223372036854775807) (h0 : 0 ≤ i) : IntKind.i64.wrap (i + 1) = i + 1 := winc h hk (by omega)
theorem not_zero {b : Int} (h : decide (b ≠ 0) = true) : decide (b = 0) = false := by simpa using h
abbrev xor64 (a b : Int) : Int := IntKind.i64.wrap (BitVec.ofInt IntKind.i64.bits a ^^^ BitVec.ofInt IntKind.i64.bits b).toNat
abbrev wu64 (n : Int) : Int := IntKind.u64.wrap n
section
variable {P : Program} {C : Cx} {n : Nat} {Q : Exit → St → Prop} {s : Nat → V} {m : Nat → Ob}
variable {α : Type} {asg och gar : List Nat} {sl : Nat × α → List (Nat × V)} {ob : Nat × α → List (Nat × Ob)} {Inv : Nat × α → Prop} {b : α} {s0 : Nat → V} {m0 : Nat → Ob} {id : Nat}
theorem s_rnd {fu : Nat} (a' : Nat × α) (R : List (Nat × Nat)) (h1 : Inv a') (h5 : HasR s och gar (qOf R) (sl a')) (h6 : HasQ m och gar (qOf R) (ob a')) (h2 : a'.1 < fu + 1 := by exact Nat.lt_succ_self _)
    (h3 : Off asg s s0 := by repeat (first | exact off_frame _ _ _ | exact off_refl _ _ | refine off_upd rfl ?_ | refine off_sub rfl ?_)) (h4 : Off (och ++ gar) m m0 := by repeat (first | exact off_frame _ _ _ | exact off_refl _ _ | refine off_upd rfl ?_ | refine off_sub rfl ?_)) (hR : okR R och gar m0 = true := by rfl) : Round asg och gar (fun a => a.1) sl ob Inv s0 m0 (fu + 1, b) Q .normal ⟨s, m⟩ :=
  k_rnd a' h1 h2 h3 h4 R hR h5 h6
end
end Go.Abs
