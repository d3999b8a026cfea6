/- Regions in the order of the text, step by step. -/
import Derived.Test.YtgicgbokgmmgdaaAbsP
set_option linter.unusedSimpArgs false
set_option linter.unusedVariables false
namespace Go.Abs
section
variable {P : Program} {C : Cx} {n : Nat} {Q : Exit → St → Prop} {st : St} {ops : Array Oper}

theorem upd_at {α : Type} (f : Nat → α) (k : Nat) (v : α) (i : Nat) : upd f k v i = if i = k then v else f i := rfl
theorem ev_tmp (n : Nat) (s : Nat → V) (t : Nat) : ev n s (.tmp t) = if t < n then s t else .jk := rfl
theorem ev_const (n : Nat) (s : Nat → V) (v : Value) : ev n s (.const v) = ofVal v := rfl
theorem ev_func (n : Nat) (s : Nat → V) (f : FuncId) : ev n s (.func f) = .fn f [] := rfl

def RunT (P : Program) (n : Nat) (ops : Array Oper) (K : St → Prop) : List Oper → St → Prop
  | [], st => K st
  | o :: r, st => ∃ e, Does P n ops o st e ∧ RunT P n ops K r (st.put o.dst e.v e.u)
theorem runT_run {K : St → Prop} : ∀ {l : List Oper} {i : Nat} {acc : List (Nat × Oper × Ev)} {st : St}, RunT P n ops K l st → Run P n ops (fun _ st => K st) (l.zipIdx i) acc st
  | [], _, _, _, h => h
  | o :: r, i, acc, st, ⟨e, h1, h2⟩ => ⟨e, h1, runT_run h2⟩
theorem awp_text {id : Nat} {l : List Oper} (h : RunT P n l.toArray (Q .normal) l st) : AWP P C n (.region id l.toArray false) Q st := awp_region (by simpa using runT_run h)

variable {K : St → Prop} {r : List Oper} {o : Oper}
theorem t_nil (h : K st) : RunT P n ops K [] st := h
theorem t_op {s' : Nat → V} {m' : Nat → Ob} {v : V} {u : List (Nat × Ob)} (hg : guardOf n ops o ⟨s', m'⟩ = some true) (h : aeff P (idOf o) (ev n s') m' o.op = some (v, u)) (hr : RunT P n ops K r ⟨match o.dst with | some d => upd s' d v | none => s', app m' u⟩) :
    RunT P n ops K (o :: r) ⟨s', m'⟩ := ⟨⟨v, u, _⟩, .inr (.inl ⟨hg, h, rfl⟩), hr⟩
theorem t_no {s' : Nat → V} {m' : Nat → Ob} (hg : guardOf n ops o ⟨s', m'⟩ = some false) (hr : RunT P n ops K r ⟨match o.dst with | some d => upd s' d (.tp []) | none => s', m'⟩) : RunT P n ops K (o :: r) ⟨s', m'⟩ := ⟨_, .inl ⟨hg, rfl⟩, hr⟩
theorem t_pure {s' : Nat → V} {m' : Nat → Ob} (hg : guardOf n ops o ⟨s', m'⟩ = some true) {c : Call} {fop : Operand} {f : FuncId} {caps : List V} (ks : List Nat) {cargs : List V} {rv : V} (ho : o.op = .call c) (hc : c.callee = .value fop) (hf : ev n s' fop = .fn f caps) (hAC : AC P f cargs noOb rv noOb)
    (hp : PassL (app m' (fzU m' ks)) (fun k => k) ks noOb (c.args.toList.map (ev n s') ++ caps) cargs)
    (hr : RunT P n ops K r ⟨match o.dst with | some d => upd s' d rv | none => s', app m' (fzU m' ks)⟩) : RunT P n ops K (o :: r) ⟨s', m'⟩ := by
  have hq : qOf [] = fun k => k := by funext k; rfl
  refine ⟨⟨rv, fzU m' ks, fpOf 0 (ev n s') o.op ++ ks⟩, .inr (.inr ⟨hg, c, fop, f, caps, ks, [], cargs, noOb, noOb, rv, ho, hc, hf, hAC, by simp, by simp, by rw [hq]; exact hp, fun k h => absurd rfl h, fun k h => absurd rfl h, fun p hp => by simp at hp, fun p hp => by simp at hp, ?_⟩), hr⟩
  rw [hq, V.ren_id]
  simp [leave]
theorem t_call {s' : Nat → V} {m' : Nat → Ob} (hg : guardOf n ops o ⟨s', m'⟩ = some true) {c : Call} {fop : Operand} {f : FuncId} {caps : List V} (ks : List Nat) (D : List (Nat × Nat)) {cargs : List V} {os os' : Nat → Ob} {rv : V} (ho : o.op = .call c) (hc : c.callee = .value fop) (hf : ev n s' fop = .fn f caps) (hAC : AC P f cargs os rv os')
    (hD1 : (D.map (·.1)).Nodup) (hD2 : (D.map (·.2)).Nodup) (hp : PassL (app m' (fzU m' ks)) (qOf D) ks os (c.args.toList.map (ev n s') ++ caps) cargs) (hdom : ∀ k, os k ≠ .no → k ∈ D.map (·.1)) (hdom' : ∀ k, os' k ≠ .no → k ∈ D.map (·.1))
    (hos : ∀ p ∈ D, os p.1 ≠ .no → app m' (fzU m' ks) p.2 = (os p.1).ren (qOf D) ∧ ∀ k ∈ (os p.1).ids, os k ≠ .no) (hnew : ∀ p ∈ D, os p.1 = .no → app m' (fzU m' ks) p.2 = .no ∧ os' p.1 ≠ .no)
    (hr : RunT P n ops K r ⟨match o.dst with | some d => upd s' d (rv.ren (qOf D)) | none => s', app m' (fzU m' ks ++ leave os' (qOf D) D)⟩) :
    RunT P n ops K (o :: r) ⟨s', m'⟩ :=
  ⟨⟨_, _, fpOf 0 (ev n s') o.op ++ ks ++ D.map (·.2)⟩, .inr (.inr ⟨hg, c, fop, f, caps, ks, D, cargs, os, os', rv, ho, hc, hf, hAC, hD1, hD2, hp, hdom, hdom', hos, hnew, rfl⟩), hr⟩

/-! ### loops -/
def slots : List (Nat × V) → Nat → V
  | [], _ => .jk
  | (k, v) :: r, i => if i = k then v else slots r i
def objs : List (Nat × Ob) → Nat → Ob
  | [], _ => .no
  | (k, v) :: r, i => if i = k then v else objs r i
theorem slots_nil (i : Nat) : slots [] i = .jk := rfl
theorem slots_cons (k : Nat) (v : V) (r : List (Nat × V)) (i : Nat) : slots ((k, v) :: r) i = if i = k then v else slots r i := rfl
theorem objs_nil (i : Nat) : objs [] i = .no := rfl
theorem objs_cons (k : Nat) (v : Ob) (r : List (Nat × Ob)) (i : Nat) : objs ((k, v) :: r) i = if i = k then v else objs r i := rfl

def HasS (s : Nat → V) (ok : List Nat) : List (Nat × V) → Prop
  | [] => True
  | (i, v) :: r => (s i = v ∧ ∀ k ∈ v.ids, k ∈ ok) ∧ HasS s ok r
def HasM (m : Nat → Ob) (ok : List Nat) : List (Nat × Ob) → Prop
  | [] => True
  | (i, v) :: r => (m i = v ∧ ∀ k ∈ v.ids, k ∈ ok) ∧ HasM m ok r

theorem hasS_spec {s : Nat → V} {ok : List Nat} : ∀ {l : List (Nat × V)}, HasS s ok l → ∀ i, slots l i = .jk ∨ (slots l i = s i ∧ ∀ k ∈ (s i).ids, k ∈ ok)
  | [], _, i => .inl rfl
  | (j, v) :: r, h, i => by
    rw [slots_cons]
    by_cases hij : i = j
    · subst hij; rw [if_pos rfl]; exact .inr ⟨h.1.1.symm, by rw [h.1.1]; exact h.1.2⟩
    · rw [if_neg hij]; exact hasS_spec h.2 i
theorem hasM_spec {m : Nat → Ob} {ok : List Nat} : ∀ {l : List (Nat × Ob)}, HasM m ok l → ∀ i, (i ∈ l.map (·.1) → objs l i = m i ∧ ∀ k ∈ (m i).ids, k ∈ ok) ∧ (i ∉ l.map (·.1) → objs l i = .no)
  | [], _, i => ⟨fun h => by simp at h, fun _ => rfl⟩
  | (j, v) :: r, h, i => by
    rw [objs_cons]
    by_cases hij : i = j
    · subst hij; rw [if_pos rfl]; exact ⟨fun _ => ⟨h.1.1.symm, by rw [h.1.1]; exact h.1.2⟩, fun hn => by simp at hn⟩
    · rw [if_neg hij]
      obtain ⟨h1, h2⟩ := hasM_spec h.2 i
      exact ⟨fun hm => h1 (by simp [hij] at hm; simpa using hm), fun hn => h2 (by simp [hij] at hn; simpa using hn)⟩

theorem weak_to {s : Nat → V} {m : Nat → Ob} (l : List (Nat × V)) (o : List (Nat × Ob)) (hC : ∀ k, C.X0 k ≠ none → k ∈ o.map (·.1)) (hs : HasS s (o.map (·.1)) l) (hm : HasM m (o.map (·.1)) o) : Weak P C n ⟨s, m⟩ ⟨slots l, objs o⟩ := by
  rintro a w ⟨G, X, hM, hd, hsz, ht⟩
  have e : objs o = fun k => if k ∈ o.map (·.1) then m k else .no := by
    funext k
    obtain ⟨h1, h2⟩ := hasM_spec hm k
    by_cases hk : k ∈ o.map (·.1)
    · rw [if_pos hk]; exact (h1 hk).1
    · rw [if_neg hk]; exact h2 hk
  refine ⟨G, fun k => if k ∈ o.map (·.1) then X k else none, ?_, hd, hsz, fun t htn => ?_⟩
  · simp only; rw [e]
    exact hM.restrict (o.map (·.1)) hC (fun k hk => ((hasM_spec hm k).1 hk).2)
  · rcases hasS_spec hs t with h | ⟨h, h2⟩
    · simp only; rw [h, V.Is]; trivial
    · simp only; rw [h]; exact V.Is.restrict h2 (ht t htn)

def NxtF {α : Type} (P : Program) (C : Cx) (n : Nat) (μ : α → Nat) (sl : α → List (Nat × V)) (ob : α → List (Nat × Ob)) (Inv : α → Prop) (a : α) (Q : Exit → St → Prop) : Exit → St → Prop
  | .normal, st => ∃ a', Inv a' ∧ μ a' < μ a ∧ Weak P C n st ⟨slots (sl a'), objs (ob a')⟩
  | e, st => Q e st
theorem awp_for {α : Type} {c : Code} (μ : α → Nat) (sl : α → List (Nat × V)) (ob : α → List (Nat × Ob)) (Inv : α → Prop) (a0 : α) (h0 : Inv a0) (hw : Weak P C n st ⟨slots (sl a0), objs (ob a0)⟩)
    (round : ∀ a, Inv a → AWP P C n c (NxtF P C n μ sl ob Inv a Q) ⟨slots (sl a), objs (ob a)⟩) : AWP P C n (.loop c) Q st := by
  refine awp_loop (fun k st => ∃ a, Inv a ∧ μ a = k ∧ st = ⟨slots (sl a), objs (ob a)⟩) (μ a0) hw ⟨a0, h0, rfl, rfl⟩ ?_
  rintro k st ⟨a, hI, rfl, rfl⟩ x w hR
  refine wp_mono (round a hI x w hR) ?_
  rintro e a' w' ⟨st', hq, hR'⟩
  refine ⟨st', ?_, hR'⟩
  cases e with
  | normal =>
    obtain ⟨a', hI', hlt, hw'⟩ := hq
    exact ⟨_, hw', μ a', hlt, a', hI', rfl, rfl⟩
  | _ => exact hq

/-! ### words for the walk -/
theorem takeT_agg {t : TypeId} {k : Nat} (h1 : aggOf P t = some true) (h2 : szOf P t = some k) (cs : List V) : takeT P t cs = if k ≤ cs.length then some (.ag (cs.take k)) else none := by simp [takeT, h1, h2]
theorem takeT_one {t : TypeId} (h1 : aggOf P t = some false) (cs : List V) : takeT P t cs = cs.head? := by simp [takeT, h1]
theorem take_all {α : Type} {l : List α} {k : Nat} (h : l.length ≤ k) : l.take k = l := List.take_of_length_le h
theorem splice_all {α : Type} {cs vs : List α} (h : cs.length ≤ vs.length) : splice cs 0 vs = vs := by
  unfold splice; rw [List.take_zero, List.nil_append, Nat.zero_add, List.drop_of_length_le h, List.append_nil]
theorem oneAll_t : ∀ (ts : List T), oneAll (ts.map V.t) = true
  | [] => rfl
  | t :: ts => by simp [oneAll, V.one, oneAll_t ts]
theorem idsL_t : ∀ (ts : List T), V.idsL (ts.map V.t) = []
  | [] => rfl
  | t :: ts => by simp [V.idsL, V.ids, idsL_t ts]
theorem ids_row (ts : List T) : (V.ag (ts.map V.t)).ids = [] := by rw [V.ids, idsL_t]
theorem pass_id {m : Nat → Ob} {ks : List Nat} {os : Nat → Ob} {v : V} (h : v.ids = []) : Pass m (fun k => k) ks os v v := .inl ⟨V.ren_id v, by rw [h]; simp⟩
theorem toTs_t (m : Nat → Ob) : ∀ (ts : List T), toTs m (ts.map V.t) = some ts
  | [] => rfl
  | t :: ts => by simp [toTs, toT, toTs_t m ts]
theorem fz_t (ts : List T) : (ts.map V.t).flatMap fz = [] := by induction ts <;> simp [fz, *]
theorem give_id {m : Nat → Ob} {ks : List Nat} (v : V) : Give1 m ks v v := .inl rfl
/-- A function that hands back pure values and leaves no object. -/
theorem ends_pure {fn : Func} {rs : List V} {s' : Nat → V} {m' : Nat → Ob} {vs : List V} (ks : List Nat) (h1 : resOf P n ⟨s', m'⟩ fn.results.toList = some vs) (h2 : GiveL (app m' (fzU m' ks)) ks vs rs) (h3 : V.idsL rs = []) : Ends P n fn rs noOb ⟨s', m'⟩ :=
  ⟨vs, ks, [], h1, h2, fun k => by simp [noOb], fun k hk => by simp at hk, fun k hk => by rw [h3] at hk; exact hk⟩
end
end Go.Abs
namespace Go.Abs
theorem args_nil {n : Nat} {s : Nat → V} {caps : List V} : ([] : List Operand).map (ev n s) ++ caps = caps := rfl
theorem args_cons {n : Nat} {s : Nat → V} {caps vs : List V} {x : Operand} {xs : List Operand} {v : V} (h : ev n s x = v) (t : xs.map (ev n s) ++ caps = vs) : (x :: xs).map (ev n s) ++ caps = v :: vs := by
  rw [List.map_cons, List.cons_append, h, t]
end Go.Abs
