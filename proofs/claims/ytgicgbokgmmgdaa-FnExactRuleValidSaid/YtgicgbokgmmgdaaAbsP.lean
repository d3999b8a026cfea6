/- Statements, loops and functions. -/
import Derived.Test.YtgicgbokgmmgdaaAbsO
import Derived.Deep.LoopGhost
set_option linter.unusedSimpArgs false
set_option linter.unusedVariables false
namespace Go.Abs

mutual
theorem V.ren_id : ∀ (v : V), v.ren (fun k => k) = v
  | .rf _ _ => rfl
  | .re _ _ _ _ => rfl
  | .ar _ => rfl
  | .t _ => rfl
  | .nl => rfl
  | .pe _ => rfl
  | .jk => rfl
  | .ze => rfl
  | .sn _ _ => rfl
  | .ag cs => by rw [V.ren, V.renL_id cs]
  | .tp cs => by rw [V.ren, V.renL_id cs]
  | .fn f cs => by rw [V.ren, V.renL_id cs]
theorem V.renL_id : ∀ (vs : List V), V.renL (fun k => k) vs = vs
  | [] => rfl
  | v :: vs => by rw [V.renL, V.ren_id v, V.renL_id vs]
end
theorem Ob.ren_id (o : Ob) : o.ren (fun k => k) = o := by cases o <;> simp [Ob.ren, V.renL_id]

section
variable {P : Program} {C : Cx} {n : Nat}

/-- Of some objects nothing is claimed any more. -/
theorem Mem.restrict {m : Nat → Ob} {w : World} {G : Im} {X : Xm} (h : Mem P C m w G X) (ob : List Nat) (hC : ∀ k, C.X0 k ≠ none → k ∈ ob) (hob : ∀ k ∈ ob, ∀ j ∈ (m k).ids, j ∈ ob) :
    Mem P C (fun k => if k ∈ ob then m k else .no) w G (fun k => if k ∈ ob then X k else none) := by
  have f : ∀ k x, (if k ∈ ob then X k else none) = some x → k ∈ ob ∧ X k = some x := fun k x hx => by
    split at hx
    · rename_i hk; exact ⟨hk, hx⟩
    · cases hx
  refine ⟨h.gle, h.gold, h.gok, h.keeps, ?_, ?_, ?_, ?_, ?_, fun k y hk => by rw [if_pos (hC k (by rw [hk]; simp))]; exact h.old k y hk⟩
  · intro k x hx
    obtain ⟨hk, hx⟩ := f k x hx
    simp only [if_pos hk]
    have := h.ob k x hx
    rw [← Ob.ren_id (m k)]
    exact Ob.Ok_ren (fun j hj y hy => by simp only [if_pos (hob k hk j hj)]; exact hy) this
  · intro k
    split
    · exact h.free k
    · simp
  · intro k k' x x' b hx hx' hb hb'
    obtain ⟨hk, hx⟩ := f k x hx
    obtain ⟨hk', hx'⟩ := f k' x' hx'
    simp only [if_pos hk] at hb
    simp only [if_pos hk'] at hb'
    exact h.apart k k' x x' b hx hx' hb hb'
  · intro k x b hx hb
    obtain ⟨hk, hx⟩ := f k x hx
    simp only [if_pos hk] at hb
    exact h.mine k x b hx hb
  · intro k x hx
    exact h.cell k x (f k x hx).2

theorem V.Is.restrict {G : Im} {X : Xm} {ob : List Nat} {v : V} {x : Value} (h : ∀ k ∈ v.ids, k ∈ ob) (hi : V.Is G X v x) : V.Is G (fun k => if k ∈ ob then X k else none) v x := by
  have := V.Is.ren (q := fun k => k) (Y := fun k => if k ∈ ob then X k else none) v x (fun k hk y hy => by simp only [if_pos (h k hk)]; exact hy) hi
  rwa [V.ren_id] at this

/-- What a state tells can be told less of. -/
def Weak (P : Program) (C : Cx) (n : Nat) (st st' : St) : Prop := ∀ a w, Rel P C n st a w → Rel P C n st' a w
theorem Weak.refl (st : St) : Weak P C n st st := fun _ _ h => h
def St.keep (st : St) (sl ob : List Nat) : St := ⟨fun i => if i ∈ sl then st.s i else .jk, fun k => if k ∈ ob then st.m k else .no⟩
theorem weak_keep (st : St) (sl ob : List Nat) (hC : ∀ k, C.X0 k ≠ none → k ∈ ob) (h1 : ∀ i ∈ sl, ∀ k ∈ (st.s i).ids, k ∈ ob) (h2 : ∀ k ∈ ob, ∀ j ∈ (st.m k).ids, j ∈ ob) : Weak P C n st (st.keep sl ob) := by
  rintro a w ⟨G, X, hM, hd, hs, ht⟩
  refine ⟨G, _, hM.restrict ob hC h2, hd, hs, fun t htn => ?_⟩
  simp only [St.keep]
  split
  · rename_i hi; exact V.Is.restrict (h1 t hi) (ht t htn)
  · rw [V.Is]; trivial

def AWP (P : Program) (C : Cx) (n : Nat) (c : Code) (Q : Exit → St → Prop) (st : St) : Prop :=
  ∀ a w, Rel P C n st a w → c.wp P (fun e a' w' => ∃ st', Q e st' ∧ Rel P C n st' a' w') a w

def Thn (P : Program) (C : Cx) (n : Nat) (y : Code) (Q : Exit → St → Prop) : Exit → St → Prop
  | .normal, st => AWP P C n y Q st
  | e, st => Q e st
def InB (id : Nat) (Q : Exit → St → Prop) : Exit → St → Prop
  | .exit id', st => if id' = id then Q .normal st else Q (.exit id') st
  | e, st => Q e st
def Nxt (P : Program) (C : Cx) (n : Nat) (I : Nat → St → Prop) (k : Nat) (Q : Exit → St → Prop) : Exit → St → Prop
  | .normal, st => ∃ st', Weak P C n st st' ∧ ∃ k', k' < k ∧ I k' st'
  | e, st => Q e st

variable {Q : Exit → St → Prop} {st : St}

theorem awp_weak {c : Code} {st' : St} (hw : Weak P C n st st') (h : AWP P C n c Q st') : AWP P C n c Q st := fun a w hR => h a w (hw a w hR)
theorem awp_skip (h : Q .normal st) : AWP P C n .skip Q st := fun a w hR => wp_skip ⟨st, h, hR⟩
theorem awp_ret (h : Q .ret st) : AWP P C n .ret Q st := fun a w hR => wp_ret ⟨st, h, hR⟩
theorem awp_exit {id : Nat} (h : Q (.exit id) st) : AWP P C n (.exit id) Q st := fun a w hR => wp_exit ⟨st, h, hR⟩
theorem awp_seq {x y : Code} (h : AWP P C n x (Thn P C n y Q) st) : AWP P C n (.seq x y) Q st := fun a w hR => wp_seq (wp_mono (h a w hR) (by
  rintro e a' w' ⟨st', hq, hR'⟩
  cases e with
  | normal => exact hq a' w' hR'
  | _ => exact ⟨st', hq, hR'⟩))
theorem awp_block {id : Nat} {c : Code} (h : AWP P C n c (InB id Q) st) : AWP P C n (.block id c) Q st := fun a w hR => wp_block (wp_mono (h a w hR) (by
  rintro e a' w' ⟨st', hq, hR'⟩
  cases e with
  | exit id' =>
    simp only [InB] at hq
    simp only [Exit.inBlock]
    split at hq
    · rename_i h; rw [if_pos h]; exact ⟨st', hq, hR'⟩
    · rename_i h; rw [if_neg h]; exact ⟨st', hq, hR'⟩
  | _ => exact ⟨st', hq, hR'⟩))
theorem cond_eval {c : Operand} {b : Bool} (hc : ev n st.s c = .t (.sc (.bool b))) {a : Act} {w : World} (hR : Rel P C n st a w) : a.eval c = .bool b := by
  obtain ⟨G, X, hM, hd, hs, ht⟩ := hR
  have := Rel.evs ht c
  rw [hc, V.Is, T.Is] at this
  exact this
theorem awp_cond {c : Operand} {x y : Code} {b : Bool} (hc : ev n st.s c = .t (.sc (.bool b))) (h1 : b = true → AWP P C n x Q st) (h2 : b = false → AWP P C n y Q st) : AWP P C n (.cond c x y) Q st := fun a w hR => by
  refine wp_cond_split (cond_eval hc hR) (fun hb => h1 hb a w hR) (fun hb => h2 hb a w hR)
theorem awp_true {c : Operand} {x y : Code} (hc : ev n st.s c = .t (.sc (.bool true))) (h : AWP P C n x Q st) : AWP P C n (.cond c x y) Q st := awp_cond hc (fun _ => h) (fun h => by cases h)
theorem awp_false {c : Operand} {x y : Code} (hc : ev n st.s c = .t (.sc (.bool false))) (h : AWP P C n y Q st) : AWP P C n (.cond c x y) Q st := awp_cond hc (fun h => by cases h) (fun _ => h)
theorem awp_loop {c : Code} (I : Nat → St → Prop) (k0 : Nat) {st0 : St} (hw : Weak P C n st st0) (h0 : I k0 st0) (round : ∀ k st, I k st → AWP P C n c (Nxt P C n I k Q) st) : AWP P C n (.loop c) Q st := fun a w hR => by
  refine wp_loop_ghost (fun k a w => ∃ st, I k st ∧ Rel P C n st a w) k0 ⟨st0, h0, hw a w hR⟩ ?_
  rintro k a w ⟨st1, hI, hR1⟩
  refine wp_mono (round k st1 hI a w hR1) ?_
  rintro e a' w' ⟨st', hq, hR'⟩
  cases e with
  | normal =>
    obtain ⟨st2, hw2, k', hk, hI'⟩ := hq
    exact ⟨k', hk, st2, hI', hw2 a' w' hR'⟩
  | _ => exact ⟨st', hq, hR'⟩

/-! ### regions -/
def isCall : Op → Bool
  | .call { callee := .value _, .. } => true
  | _ => false

/-- The operations of a region, one after the other. -/
def Run (P : Program) (n : Nat) (ops : Array Oper) (K : List (Nat × Oper × Ev) → St → Prop) : List (Oper × Nat) → List (Nat × Oper × Ev) → St → Prop
  | [], acc, st => K acc st
  | (o, i) :: r, acc, st => ∃ e, Does P n ops o st e ∧ Run P n ops K r ((i, o, e) :: acc) (st.put o.dst e.v e.u)

theorem run_chain {ops : Array Oper} {K : List (Nat × Oper × Ev) → St → Prop} : ∀ {l : List (Oper × Nat)} {acc : List (Nat × Oper × Ev)} {st : St}, (∀ o i, (o, i) ∈ l → ops[i]? = some o) → Run P n ops K l acc st →
    ∃ ch st', Chain P n ops st ch st' ∧ ch.map (·.1) = l.map (·.2) ∧ K (ch.reverse ++ acc) st'
  | [], acc, st, _, h => ⟨[], st, .nil st, rfl, h⟩
  | (o, i) :: r, acc, st, hl, h => by
    obtain ⟨e, hd, h⟩ := h
    obtain ⟨ch, st', h1, h2, h3⟩ := run_chain (fun o i hoi => hl o i (by simp [hoi])) h
    exact ⟨(i, o, e) :: ch, st', .cons (hl o i (by simp)) hd h1, by simp [h2], by simpa using h3⟩

theorem zipIdx_get {ops : Array Oper} : ∀ o i, (o, i) ∈ ops.toList.zipIdx → ops[i]? = some o := fun o i h => by
  rw [List.mem_zipIdx_iff_getElem?] at h; simpa using h
theorem zipIdx_snd (ops : Array Oper) : ops.toList.zipIdx.map (·.2) = List.range ops.size := by
  rw [List.zipIdx_map_snd, ← List.range_eq_range']; simp

theorem awp_region {id : Nat} {ops : Array Oper} (h : Run P n ops (fun _ st' => Q .normal st') ops.toList.zipIdx [] st) : AWP P C n (.region id ops false) Q st := fun a w hR => by
  obtain ⟨ch, st', h1, h2, h3⟩ := run_chain zipIdx_get h
  exact region_text h1 (by rw [h2, zipIdx_snd]) (fun a w hR => ⟨st', h3, hR⟩) hR

theorem awp_draw (hmix : P.follows .mixedOrders = true) {id : Nat} {ops : Array Oper} (hback : backward ops = true) (h : Run P n ops (fun acc st' => freeB ops (Region.before ops) acc.reverse = true ∧ Q .normal st') ops.toList.zipIdx [] st) : AWP P C n (.region id ops true) Q st := fun a w hR => by
  obtain ⟨ch, st', h1, h2, h3⟩ := run_chain zipIdx_get h
  simp only [List.append_nil, List.reverse_reverse] at h3
  exact region_any hmix h1 (by rw [h2, zipIdx_snd]) hback h3.1 (fun a w hR => ⟨st', h3.2, hR⟩) hR

section run
variable {ops : Array Oper} {K : List (Nat × Oper × Ev) → St → Prop} {r : List (Oper × Nat)} {acc : List (Nat × Oper × Ev)} {o : Oper} {i : Nat}
theorem run_nil (h : K acc st) : Run P n ops K [] acc st := h
theorem run_op {v : V} {u : List (Nat × Ob)} (hg : guardOf n ops o st = some true) (h : aeff P (idOf o) (ev n st.s) st.m o.op = some (v, u)) (hr : Run P n ops K r ((i, o, ⟨v, u, fpOf (idOf o) (ev n st.s) o.op⟩) :: acc) (st.put o.dst v u)) :
    Run P n ops K ((o, i) :: r) acc st := ⟨_, .inr (.inl ⟨hg, h, rfl⟩), hr⟩
theorem run_no (hg : guardOf n ops o st = some false) (hr : Run P n ops K r ((i, o, ⟨.tp [], [], []⟩) :: acc) (st.put o.dst (.tp []) [])) : Run P n ops K ((o, i) :: r) acc st := ⟨_, .inl ⟨hg, rfl⟩, hr⟩
/-- A call. -/
theorem run_call (hg : guardOf n ops o st = some true) {c : Call} {fop : Operand} {f : FuncId} {caps : List V} (ks : List Nat) (D : List (Nat × Nat)) {cargs : List V} {os os' : Nat → Ob} {rv : V} (ho : o.op = .call c) (hc : c.callee = .value fop) (hf : ev n st.s fop = .fn f caps) (hAC : AC P f cargs os rv os')
    (hD1 : (D.map (·.1)).Nodup) (hD2 : (D.map (·.2)).Nodup) (hp : PassL (app st.m (fzU st.m ks)) (qOf D) ks os (c.args.toList.map (ev n st.s) ++ caps) cargs) (hdom : ∀ k, os k ≠ .no → k ∈ D.map (·.1)) (hdom' : ∀ k, os' k ≠ .no → k ∈ D.map (·.1))
    (hos : ∀ p ∈ D, os p.1 ≠ .no → app st.m (fzU st.m ks) p.2 = (os p.1).ren (qOf D) ∧ ∀ k ∈ (os p.1).ids, os k ≠ .no) (hnew : ∀ p ∈ D, os p.1 = .no → app st.m (fzU st.m ks) p.2 = .no ∧ os' p.1 ≠ .no)
    (hr : Run P n ops K r ((i, o, ⟨rv.ren (qOf D), fzU st.m ks ++ leave os' (qOf D) D, fpOf 0 (ev n st.s) o.op ++ ks ++ D.map (·.2)⟩) :: acc) (st.put o.dst (rv.ren (qOf D)) (fzU st.m ks ++ leave os' (qOf D) D))) :
    Run P n ops K ((o, i) :: r) acc st :=
  ⟨_, .inr (.inr ⟨hg, c, fop, f, caps, ks, D, cargs, os, os', rv, ho, hc, hf, hAC, hD1, hD2, hp, hdom, hdom', hos, hnew, rfl⟩), hr⟩

def noOb : Nat → Ob := fun _ => .no
/-- A call that is handed pure values alone. -/
theorem run_pure (hg : guardOf n ops o st = some true) {c : Call} {fop : Operand} {f : FuncId} {caps : List V} (ks : List Nat) {cargs : List V} {rv : V} (ho : o.op = .call c) (hc : c.callee = .value fop) (hf : ev n st.s fop = .fn f caps) (hAC : AC P f cargs noOb rv noOb)
    (hp : PassL (app st.m (fzU st.m ks)) (fun k => k) ks noOb (c.args.toList.map (ev n st.s) ++ caps) cargs)
    (hr : Run P n ops K r ((i, o, ⟨rv, fzU st.m ks, fpOf 0 (ev n st.s) o.op ++ ks⟩) :: acc) (st.put o.dst rv (fzU st.m ks))) : Run P n ops K ((o, i) :: r) acc st := by
  have hq : qOf [] = fun k => k := by funext k; rfl
  refine run_call hg ks [] ho hc hf hAC (by simp) (by simp) (by rw [hq]; exact hp) (fun k h => absurd rfl h) (fun k h => absurd rfl h) (fun p hp => by simp at hp) (fun p hp => by simp at hp) ?_
  rw [hq, V.ren_id]
  simpa [leave] using hr
end run

/-! ### functions -/
def resOf (P : Program) (n : Nat) (st : St) : List ResultVar → Option (List V)
  | [] => some []
  | .tmp t :: r => match resOf P n st r with
    | some vs => some (ev n st.s (.tmp t) :: vs)
    | none => none
  | .cell a t :: r => match cellsAt st.m (ev n st.s (.tmp a)) with
    | some cells => match takeT P t cells, resOf P n st r with
      | some v, some vs => some (v :: vs)
      | _, _ => none
    | none => none
def one1 : List V → V
  | [v] => v
  | vs => .tp vs

def resVar (tmps : Array Value) : ResultVar → Sem Value
  | .tmp t => pure (tmps.getD t undef)
  | .cell a t => do loadVar t (← asAddr (tmps.getD a undef))
theorem results_eq (fn : Func) (tmps : Array Value) : results fn tmps = (do
    let vs ← fn.results.mapM (resVar tmps)
    pure (if h : vs.size = 1 then vs[0] else .tuple vs)) := by
  unfold results
  congr 1

theorem resOf_run {C : Cx} {fn : Func} {st : St} {a : Act} {w : World} {G : Im} {X : Xm} (hM : Mem P C st.m w G X) (ht : ∀ t, t < n → V.Is G X (st.s t) (a.eval (.tmp t))) {vs : List V} (h : resOf P n st fn.results.toList = some vs) :
    ∃ y, (results fn a.tmps).run P w = .ok y w ∧ V.Is G X (one1 vs) y := by
  have key : ∀ (l : List ResultVar) (vs : List V), resOf P n st l = some vs → ∃ ys : List Value, (l.mapM (resVar a.tmps)).run P w = .ok ys w ∧ V.IsL G X vs ys := by
    intro l
    induction l with
    | nil => intro vs h; simp [resOf] at h; subst h; exact ⟨[], by simp, by rw [V.IsL]⟩
    | cons x l ih =>
      intro vs h
      cases x with
      | tmp t =>
        simp only [resOf] at h
        cases hr : resOf P n st l with
        | none => rw [hr] at h; simp at h
        | some vs' =>
          rw [hr] at h; simp at h; subst h
          obtain ⟨ys, h1, h2⟩ := ih vs' hr
          exact ⟨a.eval (.tmp t) :: ys, by simp only [List.mapM_cons, Sem.run_bind, resVar, Sem.run_pure, Result.andThen_ok, h1, Act.eval], by rw [V.IsL]; exact ⟨_, _, rfl, Rel.evs ht (.tmp t), h2⟩⟩
      | cell b t =>
        simp only [resOf] at h
        cases hc : cellsAt st.m (ev n st.s (.tmp b)) with
        | none => rw [hc] at h; simp at h
        | some cells =>
          rw [hc] at h
          simp only at h
          cases hv : takeT P t cells with
          | none => rw [hv] at h; simp at h
          | some v =>
            cases hr : resOf P n st l with
            | none => rw [hv, hr] at h; simp at h
            | some vs' =>
              rw [hv, hr] at h; simp at h; subst h
              obtain ⟨ys, h1, h2⟩ := ih vs' hr
              obtain ⟨blk, off, cur, e, fr, hx, hw, hat⟩ := cellsAt_is hM hc (Rel.evs ht (.tmp b))
              obtain ⟨y, hy, hi⟩ := run_load_is hv hw hat
              have hx' : a.tmps.getD b undef = .pointer (some ⟨blk, off, none⟩) := hx
              refine ⟨y :: ys, ?_, by rw [V.IsL]; exact ⟨_, _, rfl, hi, h2⟩⟩
              simp only [Instr.loadAt, Instr.sureAddr, Sem.run_bind, Sem.run_pure, Result.andThen_ok] at hy
              simp only [List.mapM_cons, Sem.run_bind, resVar, hx', asAddr, Sem.run_pure, Result.andThen_ok, hy, h1]
  obtain ⟨ys, h1, h2⟩ := key _ vs h
  have hl := h2.length
  rw [results_eq, Array.mapM_eq_mapM_toList]
  simp only [Sem.run_bind, Sem.run_map, h1, Result.andThen_ok, Sem.run_pure]
  refine ⟨_, rfl, ?_⟩
  match vs, ys, h2, hl with
  | [], [], _, _ => simp [one1, V.Is, V.IsL]
  | [v], [y], h2, _ =>
    rw [V.IsL] at h2
    obtain ⟨y', ys', he, h3, _⟩ := h2
    simp at he; obtain ⟨rfl, _⟩ := he
    simpa [one1] using h3
  | v1 :: v2 :: vs, y1 :: y2 :: ys, h2, _ => simp only [one1]; rw [V.Is]; exact ⟨_, by simp, h2⟩

/-- What is handed back: references stay, arrays may become plain values. -/
def Give1 (m : Nat → Ob) (ks : List Nat) (v r : V) : Prop :=
  v = r ∨ (∃ t, toT m v = some t ∧ r = .t t ∧ ∀ k ∈ fz v, k ∈ ks) ∨ (∃ vs ts, v = .ag vs ∧ toTs m vs = some ts ∧ r = .ag (ts.map .t) ∧ ∀ k ∈ vs.flatMap fz, k ∈ ks)
def GiveL (m : Nat → Ob) (ks : List Nat) : List V → List V → Prop
  | [], [] => True
  | v :: vs, r :: rs => Give1 m ks v r ∧ GiveL m ks vs rs
  | _, _ => False
theorem Give1.is {C : Cx} {m : Nat → Ob} {w : World} {G : Im} {X : Xm} (hM : Mem P C m w G X) {ks : List Nat} (hun : ∀ k ∈ ks, unmut m k) {v r : V} {x : Value} (h : Give1 m ks v r) (hi : V.Is G X v x) : V.Is G X r x := by
  rcases h with rfl | h | h
  · exact hi
  · exact Pass.is hM (q := fun k => k) (os := noOb) (.inr (.inl h)) hun (fun k hk => absurd rfl hk) hi
  · exact Pass.is hM (q := fun k => k) (os := noOb) (.inr (.inr h)) hun (fun k hk => absurd rfl hk) hi
theorem GiveL.is {C : Cx} {m : Nat → Ob} {w : World} {G : Im} {X : Xm} (hM : Mem P C m w G X) {ks : List Nat} (hun : ∀ k ∈ ks, unmut m k) : ∀ {vs rs : List V} {xs : List Value}, GiveL m ks vs rs → V.IsL G X vs xs → V.IsL G X rs xs
  | [], [], _, _, h => h
  | v :: vs, r :: rs, xs, h, hi => by
    rw [V.IsL] at hi ⊢
    obtain ⟨y, ys, h1, h2, h3⟩ := hi
    exact ⟨y, ys, h1, Give1.is hM hun h.1 h2, GiveL.is hM hun h.2 h3⟩
  | [], _ :: _, _, h, _ => h.elim
  | _ :: _, [], _, h, _ => h.elim

theorem GiveL.length {m : Nat → Ob} {ks : List Nat} : ∀ {vs rs : List V}, GiveL m ks vs rs → vs.length = rs.length
  | [], [], _ => rfl
  | v :: vs, r :: rs, h => by simp [GiveL.length h.2]
  | [], _ :: _, h => h.elim
  | _ :: _, [], h => h.elim
theorem one1_is {m : Nat → Ob} {ks : List Nat} {C : Cx} {w : World} {G : Im} {X : Xm} (hM : Mem P C m w G X) (hun : ∀ k ∈ ks, unmut m k) {vs rs : List V} (h : GiveL m ks vs rs) {y : Value} (hi : V.Is G X (one1 vs) y) : V.Is G X (one1 rs) y := by
  have hl := h.length
  match vs, rs, h, hl with
  | [], [], _, _ => exact hi
  | [v], [r], h, _ => exact Give1.is hM hun h.1 hi
  | v1 :: v2 :: vs, r1 :: r2 :: rs, h, _ =>
    simp only [one1] at hi ⊢
    rw [V.Is] at hi ⊢
    obtain ⟨xs, hx, hl⟩ := hi
    exact ⟨xs, hx, GiveL.is hM hun h hl⟩

/-- The end of a function: what it answers and leaves. -/
def Ends (P : Program) (n : Nat) (fn : Func) (rs : List V) (os' : Nat → Ob) (st : St) : Prop :=
  ∃ (vs : List V) (ks ob : List Nat), resOf P n st fn.results.toList = some vs ∧ GiveL (app st.m (fzU st.m ks)) ks vs rs ∧ (∀ k, os' k = if k ∈ ob then app st.m (fzU st.m ks) k else .no) ∧ (∀ k ∈ ob, ∀ j ∈ (app st.m (fzU st.m ks) k).ids, j ∈ ob) ∧ (∀ k ∈ V.idsL rs, k ∈ ob)
def Fin (P : Program) (n : Nat) (fn : Func) (rs : List V) (os' : Nat → Ob) : Exit → St → Prop
  | .normal, st => Ends P n fn rs os' st
  | .ret, st => Ends P n fn rs os' st
  | _, _ => False

theorem idsL_one1 {rs : List V} {ob : List Nat} (h : ∀ k ∈ V.idsL rs, k ∈ ob) : ∀ k ∈ (one1 rs).ids, k ∈ ob := by
  match rs with
  | [] => intro k hk; simp [one1, V.ids, V.idsL] at hk
  | [r] => intro k hk; exact h k (by simp [V.idsL]; exact hk)
  | r1 :: r2 :: rs => intro k hk; simp only [one1, V.ids] at hk; exact h k hk

theorem AC_intro {f : FuncId} {fn : Func} {c : Code} (hf : P.funcs[f]? = some fn) (hb : fn.body = some c) (hname : (fn.name == "runtime.NumGoroutine") = false) {args rs : List V} {os os' : Nat → Ob} (hlen : args.length ≤ fn.ntmps)
    (hkeep : ∀ k, os k ≠ .no → os' k ≠ .no)
    (h : ∀ C : Cx, (∀ k, C.X0 k ≠ none → os k ≠ .no) → AWP P C fn.ntmps c (Fin P fn.ntmps fn rs os') ⟨fun t => args.getD t .jk, os⟩) : AC P f args os (one1 rs) os' := by
  refine ⟨⟨fn, hf, by simp [hb], hname⟩, ?_⟩
  intro w G X own xs hM hargs
  have hxl := hargs.length
  have hX0 : ∀ k, X k ≠ none → os k ≠ .no := fun k hk hn => hk ((hM.free k).2 hn)
  refine calls_of_wp hf hb (wp_mono (h ⟨w, G, own, X⟩ hX0 _ w ⟨G, X, hM, rfl, by simp; omega, ?_⟩) ?_)
  · intro t ht
    simp only [Act.eval, Array.getD_eq_getD_getElem?, Array.getElem?_append, List.size_toArray]
    by_cases h1 : t < args.length
    · obtain ⟨x, hx, hi⟩ := hargs.get t args[t] (List.getElem?_eq_getElem h1)
      rw [if_pos (by omega), List.getElem?_toArray, hx, List.getD_eq_getElem?_getD, List.getElem?_eq_getElem h1]
      exact hi
    · rw [List.getD_eq_getElem?_getD, List.getElem?_eq_none (by omega)]
      simp only [Option.getD_none]
      rw [V.Is]; trivial
  · rintro e a' w' ⟨st', hq, G', X', hM', hd, hs, ht⟩
    have hends : ∀ (he : Ends P fn.ntmps fn rs os' st'), a'.defers = [] ∧ ∃ v, (results fn a'.tmps).run P w' = .ok v w' ∧ ∃ x G' X', Ending.returned v = .returned x ∧ Mem P ⟨w, G, own, X⟩ os' w' G' X' ∧ V.Is G' X' (one1 rs) x := by
      rintro ⟨vs, ks, ob, h1, h2, h3, h4, h5⟩
      obtain ⟨y, hy, hi⟩ := resOf_run hM' ht h1
      obtain ⟨G2, hG2, hM2⟩ := hM'.freezeL ks
      have hi2 := one1_is hM2 (fun k hk => unmut_fzU ks _ k (.inr hk)) h2 (V.Is.mono hG2 (Xle.refl _) _ _ hi)
      have hob : ∀ k, X k ≠ none → k ∈ ob := fun k hk => by
        have := hkeep k (hX0 k hk)
        rw [h3 k] at this
        by_cases hin : k ∈ ob
        · exact hin
        · rw [if_neg hin] at this; exact absurd rfl this
      have hM3 := hM2.restrict ob hob h4
      have e3 : os' = fun k => if k ∈ ob then app st'.m (fzU st'.m ks) k else .no := funext h3
      rw [e3]
      exact ⟨hd, y, hy, y, G2, _, rfl, hM3, V.Is.restrict (idsL_one1 h5) hi2⟩
    cases e with
    | normal => exact hends hq
    | ret => exact hends hq
    | _ => exact hq.elim
end
end Go.Abs
