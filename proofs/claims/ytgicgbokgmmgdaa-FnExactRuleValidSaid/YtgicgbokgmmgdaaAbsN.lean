/- Regions: the operations of a statement, in the order of the text or in any order that Go allows. -/
import Derived.Test.YtgicgbokgmmgdaaAbsM
set_option linter.unusedSimpArgs false
set_option linter.unusedVariables false
namespace Go.Abs

structure St where
  s : Nat → V
  m : Nat → Ob
/-- What an operation did: its answer, the objects that it turned, the objects that it looked at. -/
structure Ev where
  v : V
  u : List (Nat × Ob)
  fp : List Nat
def St.put (st : St) (dst : Option Tmp) (v : V) (u : List (Nat × Ob)) : St :=
  ⟨match dst with | some d => upd st.s d v | none => st.s, app st.m u⟩

def Rel (P : Program) (C : Cx) (n : Nat) (st : St) (a : Act) (w : World) : Prop :=
  ∃ G X, Mem P C st.m w G X ∧ a.defers = [] ∧ a.tmps.size = n ∧ ∀ t, t < n → V.Is G X (st.s t) (a.eval (.tmp t))

def guardOf (n : Nat) (ops : Array Oper) (o : Oper) (st : St) : Option Bool :=
  match o.guard with
  | none => some true
  | some (j, want) => match (ops[j]?).bind (·.dst) with
    | some d => match ev n st.s (.tmp d) with
      | .t (.sc (.bool b)) => some (b == want)
      | .tp _ => some false
      | _ => none
    | none => none
def idOf (o : Oper) : Nat := o.dst.getD 0

def CallDoes (P : Program) (n : Nat) (o : Oper) (st : St) (e : Ev) : Prop :=
  ∃ (c : Call) (fop : Operand) (f : FuncId) (caps : List V) (ks : List Nat) (D : List (Nat × Nat)) (cargs : List V) (os os' : Nat → Ob) (r : V),
    o.op = .call c ∧ c.callee = .value fop ∧ ev n st.s fop = .fn f caps ∧ AC P f cargs os r os' ∧ (D.map (·.1)).Nodup ∧ (D.map (·.2)).Nodup ∧
    PassL (app st.m (fzU st.m ks)) (qOf D) ks os (c.args.toList.map (ev n st.s) ++ caps) cargs ∧ (∀ k, os k ≠ .no → k ∈ D.map (·.1)) ∧ (∀ k, os' k ≠ .no → k ∈ D.map (·.1)) ∧
    (∀ p ∈ D, os p.1 ≠ .no → app st.m (fzU st.m ks) p.2 = (os p.1).ren (qOf D) ∧ ∀ k ∈ (os p.1).ids, os k ≠ .no) ∧ (∀ p ∈ D, os p.1 = .no → app st.m (fzU st.m ks) p.2 = .no ∧ os' p.1 ≠ .no) ∧
    e = ⟨r.ren (qOf D), fzU st.m ks ++ leave os' (qOf D) D, fpOf 0 (ev n st.s) o.op ++ ks ++ D.map (·.2)⟩

def Does (P : Program) (n : Nat) (ops : Array Oper) (o : Oper) (st : St) (e : Ev) : Prop :=
  (guardOf n ops o st = some false ∧ e = ⟨.tp [], [], []⟩) ∨
  (guardOf n ops o st = some true ∧ aeff P (idOf o) (ev n st.s) st.m o.op = some (e.v, e.u) ∧ e.fp = fpOf (idOf o) (ev n st.s) o.op) ∨
  (guardOf n ops o st = some true ∧ CallDoes P n o st e)

section
variable {P : Program} {C : Cx} {n : Nat} {ops : Array Oper} {Q : Exit → Act → World → Prop}

theorem Rel.evs {st : St} {a : Act} {G : Im} {X : Xm} (h : ∀ t, t < n → V.Is G X (st.s t) (a.eval (.tmp t))) (x : Operand) : V.Is G X (ev n st.s x) (a.eval x) := ev_is h x

theorem eval_put (a : Act) (d : Nat) (y : Value) (t : Nat) : (a.put (some d) y).eval (.tmp t) = if t = d ∧ d < a.tmps.size then y else a.eval (.tmp t) := by
  simp only [Act.put, Act.eval, Array.getD_eq_getD_getElem?, Array.getElem?_setIfInBounds]
  by_cases h : d = t
  · subst h
    by_cases h2 : d < a.tmps.size
    · simp [h2]
    · simp [h2]
  · rw [if_neg h, if_neg (by rintro ⟨h3, _⟩; exact h h3.symm)]

theorem Rel.put {st : St} {a : Act} {w' : World} {G G' : Im} {X X' : Xm} {v : V} {u : List (Nat × Ob)} {y : Value} (hM : Mem P C (app st.m u) w' G' X') (hd : a.defers = []) (hs : a.tmps.size = n) (ht : ∀ t, t < n → V.Is G X (st.s t) (a.eval (.tmp t)))
    (hG : Gle G G') (hX : Xle X X') (hv : V.Is G' X' v y) (dst : Option Tmp) : Rel P C n (st.put dst v u) (a.put dst y) w' := by
  refine ⟨G', X', hM, ?_, ?_, ?_⟩
  · cases dst <;> exact hd
  · cases dst <;> simp [Act.put, hs]
  · intro t htn
    cases dst with
    | none => exact V.Is.mono hG hX _ _ (ht t htn)
    | some d =>
      rw [eval_put]
      simp only [St.put]
      by_cases h : t = d
      · subst h; rw [upd_same, if_pos ⟨rfl, by omega⟩]; exact hv
      · rw [upd_ne _ _ _ h, if_neg (by rintro ⟨h2, _⟩; exact h h2)]; exact V.Is.mono hG hX _ _ (ht t htn)

theorem guard_wanted {st : St} {a : Act} {o : Oper} {b : Bool} {G : Im} {X : Xm} (h : guardOf n ops o st = some b) (hs : a.tmps.size = n) (ht : ∀ t, t < n → V.Is G X (st.s t) (a.eval (.tmp t))) : Region.wanted o (yielded ops a.tmps) = b := by
  unfold guardOf at h
  unfold Region.wanted
  cases hg : o.guard with
  | none => rw [hg] at h; simp at h; simp [h]
  | some p =>
    obtain ⟨j, want⟩ := p
    rw [hg] at h
    simp only at h ⊢
    split at h
    · rename_i d hd
      split at h
      · rename_i c hc
        simp at h; subst h
        simp only [ev] at hc
        by_cases hdn : d < n
        · rw [if_pos hdn] at hc
          have hi := ht d hdn
          rw [hc, V.Is, T.Is] at hi
          have : yielded ops a.tmps j = some c := by
            unfold yielded
            rw [hd]
            simp only [Option.bind_some]
            have hlt : d < a.tmps.size := by rw [hs]; exact hdn
            simp only [Act.eval, Array.getD_eq_getD_getElem?] at hi
            rw [Array.getElem?_eq_getElem hlt] at hi ⊢
            simp at hi
            rw [hi]; rfl
          rw [this]
          cases c <;> cases want <;> rfl
        · rw [if_neg hdn] at hc; cases hc
      · rename_i vs hc
        simp at h; subst h
        simp only [ev] at hc
        by_cases hdn : d < n
        · rw [if_pos hdn] at hc
          have hi := ht d hdn
          rw [hc, V.Is] at hi
          obtain ⟨xs, hi, _⟩ := hi
          have : yielded ops a.tmps j = none := by
            unfold yielded
            rw [hd]
            simp only [Option.bind_some]
            have hlt : d < a.tmps.size := by rw [hs]; exact hdn
            simp only [Act.eval, Array.getD_eq_getD_getElem?] at hi
            rw [Array.getElem?_eq_getElem hlt] at hi ⊢
            simp at hi
            rw [hi]
          rw [this]; rfl
        · rw [if_neg hdn] at hc; cases hc
      · cases h
    · cases h

theorem does_sound {i : Nat} {o : Oper} (hi : ops[i]? = some o) {st : St} {e : Ev} (hd : Does P n ops o st e) {a : Act} {w : World} (hR : Rel P C n st a w) {K : Act → World → Prop} (hK : ∀ a' w', Rel P C n (st.put o.dst e.v e.u) a' w' → K a' w') : wpOp P ops Q i K a w := by
  obtain ⟨G, X, hM, hdf, hs, ht⟩ := hR
  unfold wpOp
  rw [hi]
  simp only
  rcases hd with ⟨hg, rfl⟩ | ⟨hg, he, _⟩ | ⟨hg, hc⟩
  · rw [guard_wanted hg hs ht]
    simp only [Bool.false_eq_true, if_false]
    exact hK _ _ (Rel.put hM hdf hs ht (Gle.refl G) (Xle.refl X) (by rw [V.Is]; exact ⟨#[], rfl, by rw [V.IsL]⟩) o.dst)
  · rw [guard_wanted hg hs ht]
    simp only [if_true]
    left
    obtain ⟨nx, y, w', G', X', hr, hn, hG, hX, hM', hv⟩ := aeff_sound hM (Rel.evs ht) he
    unfold Oper.wp
    rw [hr]
    rcases hn with rfl | ⟨rfl, rfl⟩
    · exact hK _ _ (Rel.put hM' hdf hs ht hG hX hv o.dst)
    · exact hK _ _ (Rel.put hM' hdf hs ht hG hX hv o.dst)
  · rw [guard_wanted hg hs ht]
    simp only [if_true]
    left
    obtain ⟨c, fop, f, caps, ks, D, cargs, os, os', r, ho, hcal, hf, hAC, hD1, hD2, hp, hdom, hdom', hos, hnew, rfl⟩ := hc
    obtain ⟨args, hrun, hcalls⟩ := did_call hM (Rel.evs ht) ho hcal hf hAC hD1 hD2 hp hdom hdom' hos hnew
    unfold Oper.wp
    rw [hrun]
    refine hcalls.mono ?_
    rintro e' w' ⟨y, G', X', rfl, hG, hX, hM', hv⟩
    exact hK _ _ (Rel.put hM' hdf hs ht hG hX hv o.dst)

/-- The operations, one after the other. -/
inductive Chain (P : Program) (n : Nat) (ops : Array Oper) : St → List (Nat × Oper × Ev) → St → Prop
  | nil (st : St) : Chain P n ops st [] st
  | cons {st st' : St} {i : Nat} {o : Oper} {e : Ev} {l : List (Nat × Oper × Ev)} (hi : ops[i]? = some o) (hd : Does P n ops o st e) (h : Chain P n ops (st.put o.dst e.v e.u) l st') : Chain P n ops st ((i, o, e) :: l) st'

theorem chain_sound {l : List (Nat × Oper × Ev)} {st st' : St} (h : Chain P n ops st l st') (hK : ∀ a w, Rel P C n st' a w → Q .normal a w) : ∀ {a : Act} {w : World}, Rel P C n st a w → wpOps P ops Q (l.map (·.1)) a w := by
  induction h with
  | nil st => intro a w hR; exact hK a w hR
  | cons hi hd h ih =>
    intro a w hR
    rw [List.map_cons, wpOps_cons]
    exact does_sound hi hd hR (fun a' w' hR' => ih hK hR')

theorem region_text {id : Nat} {l : List (Nat × Oper × Ev)} {st st' : St} (h : Chain P n ops st l st') (hl : l.map (·.1) = List.range ops.size) (hK : ∀ a w, Rel P C n st' a w → Q .normal a w) {a : Act} {w : World} (hR : Rel P C n st a w) : (Code.region id ops false).wp P Q a w :=
  wp_region (by rw [← hl]; exact chain_sound h hK hR)

/-! ### any order -/
def keys (e : Ev) : List Nat := e.u.map (·.1)
def indep (ops : Array Oper) (x y : Nat × Oper × Ev) : Bool :=
  x.2.1.apart ops y.2.1 && (keys x.2.2).all (fun k => !y.2.2.fp.contains k && !(keys y.2.2).contains k) && (keys y.2.2).all (fun k => !x.2.2.fp.contains k)
theorem indep_spec {x y : Nat × Oper × Ev} (h : indep ops x y = true) : x.2.1.apart ops y.2.1 = true ∧ (∀ k ∈ keys x.2.2, k ∉ y.2.2.fp ∧ k ∉ keys y.2.2) ∧ (∀ k ∈ keys y.2.2, k ∉ x.2.2.fp) := by
  simp only [indep, Bool.and_eq_true, List.all_eq_true, Bool.not_eq_true', List.contains_eq_mem, decide_eq_false_iff_not] at h
  exact ⟨h.1.1, h.1.2, h.2⟩

theorem looksAt_op {o : Oper} {t : Nat} (h : Operand.tmp t ∈ o.op.operands.toList) : t ∈ o.looksAt ops := by
  unfold Oper.looksAt
  rw [List.mem_append]
  exact .inl (List.mem_filterMap.2 ⟨_, h, rfl⟩)
theorem ev_same {o : Oper} {s s' : Nat → V} (h : ∀ t ∈ o.looksAt ops, s' t = s t) (x : Operand) (hx : x ∈ o.op.operands.toList) : ev n s' x = ev n s x := by
  cases x <;> try rfl
  rename_i t
  simp only [ev, h t (looksAt_op hx)]
theorem guardOf_same {o : Oper} {st st' : St} (h : ∀ t ∈ o.looksAt ops, st'.s t = st.s t) : guardOf n ops o st' = guardOf n ops o st := by
  unfold guardOf
  cases hg : o.guard with
  | none => rfl
  | some p =>
    obtain ⟨j, want⟩ := p
    simp only
    cases hd : (ops[j]?).bind (·.dst) with
    | none => rfl
    | some d =>
      simp only [ev]
      rw [h d (by unfold Oper.looksAt; rw [hg]; simp [hd])]

theorem does_local {o : Oper} {st st' : St} {e : Ev} (hs : ∀ t ∈ o.looksAt ops, st'.s t = st.s t) (hm : ∀ k ∈ e.fp, st'.m k = st.m k) (h : Does P n ops o st e) : Does P n ops o st' e := by
  unfold Does
  rw [guardOf_same hs]
  rcases h with h | ⟨hg, h1, h2⟩ | ⟨hg, h⟩
  · exact .inl h
  · refine .inr (.inl ⟨hg, ?_, ?_⟩)
    · rw [aeff_local (fun x hx => ev_same hs x hx) (fun k hk => hm k (by rw [h2]; exact hk))]; exact h1
    · rw [h2]; unfold fpOf; congr 1; exact (fpIds_congr fun x hx => ev_same hs x hx).symm
  · refine .inr (.inr ⟨hg, ?_⟩)
    obtain ⟨c, fop, f, caps, ks, D, cargs, os, os', r, ho, hcal, hf, hAC, hD1, hD2, hp, hdom, hdom', hos, hnew, rfl⟩ := h
    simp only [List.mem_append] at hm
    have hopn : fop ∈ o.op.operands.toList := by rw [ho]; simp [Op.operands, Call.operands, hcal]
    have hargs : ∀ x ∈ c.args.toList, x ∈ o.op.operands.toList := fun x hx => by rw [ho]; simp [Op.operands, Call.operands, hcal]; exact .inr (by simpa using hx)
    have e0 : fzU st'.m ks = fzU st.m ks := fzU_congr fun k hk => hm k (.inl (.inr hk))
    have e1 : c.args.toList.map (ev n st'.s) = c.args.toList.map (ev n st.s) := List.map_congr_left fun x hx => ev_same hs x (hargs x hx)
    have hids : ∀ v ∈ c.args.toList.map (ev n st.s) ++ caps, ∀ k ∈ v.ids, st'.m k = st.m k := by
      intro v hv k hk
      refine hm k (.inl (.inl ?_))
      rw [List.mem_append] at hv
      rcases hv with hv | hv
      · obtain ⟨x, hx, rfl⟩ := List.mem_map.1 hv
        exact fp_mem (by rw [ho]; rfl) (hargs x hx) hk
      · refine fp_mem (by rw [ho]; rfl) hopn ?_
        rw [hf, V.ids]; exact V.mem_idsL hv hk
    have hpass : ∀ (vs cs : List V), (∀ v ∈ vs, ∀ k ∈ v.ids, st'.m k = st.m k) → PassL (app st.m (fzU st.m ks)) (qOf D) ks os vs cs → PassL (app st'.m (fzU st.m ks)) (qOf D) ks os vs cs := by
      intro vs
      induction vs with
      | nil => intro cs _ h; cases cs <;> exact h
      | cons v vs ih =>
        intro cs hv h
        cases cs with
        | nil => exact h
        | cons c cs =>
          refine ⟨?_, ih cs (fun v hv' => hv v (by simp [hv'])) h.2⟩
          rcases h.1 with h1 | ⟨t, h1, h2, h3⟩ | ⟨ws, ts, h0, h1, h2, h3⟩
          · exact .inl h1
          · exact .inr (.inl ⟨t, by rw [toT_congr fun k hk => app_congr _ (hv v (by simp) k hk)]; exact h1, h2, h3⟩)
          · refine .inr (.inr ⟨ws, ts, h0, ?_, h2, h3⟩)
            rw [toTs_congr fun k hk => app_congr _ (hv v (by simp) k (by rw [h0, V.ids]; exact hk))]; exact h1
    refine ⟨c, fop, f, caps, ks, D, cargs, os, os', r, ho, hcal, by rw [ev_same hs fop hopn]; exact hf, hAC, hD1, hD2, by rw [e0, e1]; exact hpass _ _ hids hp, hdom, hdom', ?_, ?_, ?_⟩
    · intro p hpD h
      rw [e0, app_congr _ (hm p.2 (.inr (List.mem_map.2 ⟨p, hpD, rfl⟩)))]; exact hos p hpD h
    · intro p hpD h
      rw [e0, app_congr _ (hm p.2 (.inr (List.mem_map.2 ⟨p, hpD, rfl⟩)))]; exact hnew p hpD h
    · rw [e0]
      congr 2
      unfold fpOf
      congr 2
      exact (fpIds_congr fun x hx => ev_same hs x hx).symm

theorem app_comm : ∀ (a b : List (Nat × Ob)) (m : Nat → Ob), (∀ k ∈ a.map (·.1), k ∉ b.map (·.1)) → app (app m a) b = app (app m b) a := by
  intro a b m h
  funext k
  by_cases hb : k ∈ b.map (·.1)
  · have ha : k ∉ a.map (·.1) := fun ha => h k ha hb
    rw [app_notMem a _ k ha]
    exact app_congr' b k hb _ _
  · rw [app_notMem b _ k hb]
    by_cases ha : k ∈ a.map (·.1)
    · exact app_congr' a k ha _ _
    · rw [app_notMem a _ k ha, app_notMem a _ k ha, app_notMem b _ k hb]
where
  app_congr' : ∀ (u : List (Nat × Ob)) (k : Nat), k ∈ u.map (·.1) → ∀ (m m' : Nat → Ob), app m u k = app m' u k
    | (j, o) :: u, k, h, m, m' => by
      rw [app, app]
      by_cases hk : k ∈ u.map (·.1)
      · exact app_congr' u k hk _ _
      · rw [app_notMem u _ k hk, app_notMem u _ k hk]
        simp at h hk
        rcases h with rfl | ⟨x, hx⟩
        · rw [upd_same, upd_same]
        · exact absurd hx (hk x)

theorem chain_swap {x y : Nat × Oper × Ev} {l : List (Nat × Oper × Ev)} {st st' : St} (h : Chain P n ops st (x :: y :: l) st') (hi : indep ops x y = true) : Chain P n ops st (y :: x :: l) st' := by
  obtain ⟨i, oi, ei⟩ := x
  obtain ⟨j, oj, ej⟩ := y
  obtain ⟨hap, h1, h2⟩ := indep_spec hi
  simp only at hap h1 h2
  obtain ⟨a1, a2, a3⟩ := Oper.apart_spec hap
  cases h with
  | cons hi1 hd1 h =>
    cases h with
    | cons hj1 hd2 h =>
      have e1 : ∀ (o1 o2 : Oper) (st : St) (v : V) (u : List (Nat × Ob)), (∀ d, o1.dst = some d → d ∉ o2.looksAt ops) → ∀ t ∈ o2.looksAt ops, (st.put o1.dst v u).s t = st.s t := by
        intro o1 o2 st v u hh t ht
        cases hd : o1.dst with
        | none => rfl
        | some d => simp only [St.put]; exact upd_ne _ _ _ (by rintro rfl; exact hh _ hd ht)
      have d2 : Does P n ops oj st ej := does_local (fun t ht => (e1 oi oj st ei.v ei.u a1 t ht).symm) (fun k hk => by
        simp only [St.put]; exact (app_notMem _ _ _ (fun hc => (h1 k hc).1 hk)).symm) hd2
      have d1 : Does P n ops oi (st.put oj.dst ej.v ej.u) ei := does_local (fun t ht => e1 oj oi st ej.v ej.u a3 t ht) (fun k hk => by
        simp only [St.put]; exact app_notMem _ _ _ (fun hc => h2 k hc hk)) hd1
      refine .cons hj1 d2 (.cons hi1 d1 ?_)
      have e2 : (st.put oj.dst ej.v ej.u).put oi.dst ei.v ei.u = (st.put oi.dst ei.v ei.u).put oj.dst ej.v ej.u := by
        unfold St.put
        congr 1
        · cases hd : oi.dst with
          | none => rfl
          | some d =>
            cases hd' : oj.dst with
            | none => rfl
            | some d' =>
              funext t
              have : d' ≠ d := fun e => a2 d hd (by rw [hd', e])
              simp only [upd]
              by_cases t1 : t = d <;> by_cases t2 : t = d' <;> simp [t1, t2, this, Ne.symm this] <;> omega
        · exact (app_comm ei.u ej.u st.m (fun k hk => (h1 k hk).2)).symm
      rw [e2]; exact h

theorem chain_front {x : Nat × Oper × Ev} {l2 : List (Nat × Oper × Ev)} {st' : St} : ∀ {l1 : List (Nat × Oper × Ev)} {st : St}, Chain P n ops st (l1 ++ x :: l2) st' → (∀ y ∈ l1, indep ops y x = true) → Chain P n ops st (x :: (l1 ++ l2)) st'
  | [], st, h, _ => h
  | y :: l1, st, h, hy => by
    obtain ⟨i, o, e⟩ := y
    cases h with
    | cons hi hd h =>
      exact chain_swap (.cons hi hd (chain_front h fun z hz => hy z (by simp [hz]))) (hy _ (by simp))
end
end Go.Abs
