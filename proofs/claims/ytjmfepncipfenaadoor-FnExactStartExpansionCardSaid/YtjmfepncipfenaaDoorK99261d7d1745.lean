/- A part of the proof: what the functions that the law calls answer, as pure values. -/
import Derived.Deep.LoopGhost
import Derived.Test.YtjmfepncipfenaaDoorK7467200ef4f5
set_option linter.unusedSimpArgs false
set_option linter.unusedVariables false
section
set_option linter.unusedSimpArgs false
set_option linter.unusedVariables false
namespace Go.Abs
mutual
theorem V.ren_id : ∀ (v : V), v.ren (fun k => k) = v
  | .rf _ _ => rfl
  | .re _ _ _ _ => rfl
  | .ar _ => rfl
  | .t _ => rfl
  | .nl => rfl
  | .pe _ => rfl
  | .jk => rfl
  | .ze => rfl
  | .sn _ _ => rfl
  | .ag cs => by rw [V.ren, V.renL_id cs]
  | .tp cs => by rw [V.ren, V.renL_id cs]
  | .fn f cs => by rw [V.ren, V.renL_id cs]
theorem V.renL_id : ∀ (vs : List V), V.renL (fun k => k) vs = vs
  | [] => rfl
  | v :: vs => by rw [V.renL, V.ren_id v, V.renL_id vs]
end
theorem Ob.ren_id (o : Ob) : o.ren (fun k => k) = o := by cases o <;> simp [Ob.ren, V.renL_id]
section
variable {P : Program} {C : Cx} {n : Nat}
theorem Mem.restrict {m : Nat → Ob} {w : World} {G : Im} {X : Xm} (h : Mem P C m w G X) (ob : List Nat) (hC : ∀ k, C.X0 k ≠ none → k ∈ ob) (hob : ∀ k ∈ ob, ∀ j ∈ (m k).ids, j ∈ ob) :
    Mem P C (fun k => if k ∈ ob then m k else .no) w G (fun k => if k ∈ ob then X k else none) := by
  have f : ∀ k x, (if k ∈ ob then X k else none) = some x → k ∈ ob ∧ X k = some x := fun k x hx => by
    split at hx
    · rename_i hk; exact ⟨hk, hx⟩
    · cases hx
  refine ⟨h.gle, h.gold, h.gok, h.keeps, ?_, ?_, ?_, ?_, ?_, fun k y hk => by rw [if_pos (hC k (by rw [hk]; simp))]; exact h.old k y hk⟩
  · intro k x hx
    obtain ⟨hk, hx⟩ := f k x hx
    simp only [if_pos hk]
    have := h.ob k x hx
    rw [← Ob.ren_id (m k)]
    exact Ob.Ok_ren (fun j hj y hy => by simp only [if_pos (hob k hk j hj)]; exact hy) this
  · intro k
    split
    · exact h.free k
    · simp
  · intro k k' x x' b hx hx' hb hb'
    obtain ⟨hk, hx⟩ := f k x hx
    obtain ⟨hk', hx'⟩ := f k' x' hx'
    simp only [if_pos hk] at hb
    simp only [if_pos hk'] at hb'
    exact h.apart k k' x x' b hx hx' hb hb'
  · intro k x b hx hb
    obtain ⟨hk, hx⟩ := f k x hx
    simp only [if_pos hk] at hb
    exact h.mine k x b hx hb
  · intro k x hx
    exact h.cell k x (f k x hx).2
theorem V.Is.restrict {G : Im} {X : Xm} {ob : List Nat} {v : V} {x : Value} (h : ∀ k ∈ v.ids, k ∈ ob) (hi : V.Is G X v x) : V.Is G (fun k => if k ∈ ob then X k else none) v x := by
  have := V.Is.ren (q := fun k => k) (Y := fun k => if k ∈ ob then X k else none) v x (fun k hk y hy => by simp only [if_pos (h k hk)]; exact hy) hi
  rwa [V.ren_id] at this
def Weak (P : Program) (C : Cx) (n : Nat) (st st' : St) : Prop := ∀ a w, Rel P C n st a w → Rel P C n st' a w
theorem Weak.refl (st : St) : Weak P C n st st := fun _ _ h => h
def St.keep (st : St) (sl ob : List Nat) : St := ⟨fun i => if i ∈ sl then st.s i else .jk, fun k => if k ∈ ob then st.m k else .no⟩
def AWP (P : Program) (C : Cx) (n : Nat) (c : Code) (Q : Exit → St → Prop) (st : St) : Prop :=
  ∀ a w, Rel P C n st a w → c.wp P (fun e a' w' => ∃ st', Q e st' ∧ Rel P C n st' a' w') a w
def Thn (P : Program) (C : Cx) (n : Nat) (y : Code) (Q : Exit → St → Prop) : Exit → St → Prop
  | .normal, st => AWP P C n y Q st
  | e, st => Q e st
def InB (id : Nat) (Q : Exit → St → Prop) : Exit → St → Prop
  | .exit id', st => if id' = id then Q .normal st else Q (.exit id') st
  | e, st => Q e st
variable {Q : Exit → St → Prop} {st : St}
theorem awp_weak {c : Code} {st' : St} (hw : Weak P C n st st') (h : AWP P C n c Q st') : AWP P C n c Q st := fun a w hR => h a w (hw a w hR)
theorem awp_skip (h : Q .normal st) : AWP P C n .skip Q st := fun a w hR => wp_skip ⟨st, h, hR⟩
theorem awp_ret (h : Q .ret st) : AWP P C n .ret Q st := fun a w hR => wp_ret ⟨st, h, hR⟩
theorem awp_exit {id : Nat} (h : Q (.exit id) st) : AWP P C n (.exit id) Q st := fun a w hR => wp_exit ⟨st, h, hR⟩
theorem awp_seq {x y : Code} (h : AWP P C n x (Thn P C n y Q) st) : AWP P C n (.seq x y) Q st := fun a w hR => wp_seq (wp_mono (h a w hR) (by
  rintro e a' w' ⟨st', hq, hR'⟩
  cases e with
  | normal => exact hq a' w' hR'
  | _ => exact ⟨st', hq, hR'⟩))
theorem awp_block {id : Nat} {c : Code} (h : AWP P C n c (InB id Q) st) : AWP P C n (.block id c) Q st := fun a w hR => wp_block (wp_mono (h a w hR) (by
  rintro e a' w' ⟨st', hq, hR'⟩
  cases e with
  | exit id' =>
    simp only [InB] at hq
    simp only [Exit.inBlock]
    split at hq
    · rename_i h; rw [if_pos h]; exact ⟨st', hq, hR'⟩
    · rename_i h; rw [if_neg h]; exact ⟨st', hq, hR'⟩
  | _ => exact ⟨st', hq, hR'⟩))
theorem cond_eval {c : Operand} {b : Bool} (hc : ev n st.s c = .t (.sc (.bool b))) {a : Act} {w : World} (hR : Rel P C n st a w) : a.eval c = .bool b := by
  obtain ⟨G, X, hM, hd, hs, ht⟩ := hR
  have := Rel.evs ht c
  rw [hc, V.Is, T.Is] at this
  exact this
theorem awp_cond {c : Operand} {x y : Code} {b : Bool} (hc : ev n st.s c = .t (.sc (.bool b))) (h1 : b = true → AWP P C n x Q st) (h2 : b = false → AWP P C n y Q st) : AWP P C n (.cond c x y) Q st := fun a w hR => by
  refine wp_cond_split (cond_eval hc hR) (fun hb => h1 hb a w hR) (fun hb => h2 hb a w hR)
theorem awp_true {c : Operand} {x y : Code} (hc : ev n st.s c = .t (.sc (.bool true))) (h : AWP P C n x Q st) : AWP P C n (.cond c x y) Q st := awp_cond hc (fun _ => h) (fun h => by cases h)
theorem awp_false {c : Operand} {x y : Code} (hc : ev n st.s c = .t (.sc (.bool false))) (h : AWP P C n y Q st) : AWP P C n (.cond c x y) Q st := awp_cond hc (fun h => by cases h) (fun _ => h)
def Run (P : Program) (n : Nat) (ops : Array Oper) (K : List (Nat × Oper × Ev) → St → Prop) : List (Oper × Nat) → List (Nat × Oper × Ev) → St → Prop
  | [], acc, st => K acc st
  | (o, i) :: r, acc, st => ∃ e, Does P n ops o st e ∧ Run P n ops K r ((i, o, e) :: acc) (st.put o.dst e.v e.u)
theorem run_chain {ops : Array Oper} {K : List (Nat × Oper × Ev) → St → Prop} : ∀ {l : List (Oper × Nat)} {acc : List (Nat × Oper × Ev)} {st : St}, (∀ o i, (o, i) ∈ l → ops[i]? = some o) → Run P n ops K l acc st →
    ∃ ch st', Chain P n ops st ch st' ∧ ch.map (·.1) = l.map (·.2) ∧ K (ch.reverse ++ acc) st'
  | [], acc, st, _, h => ⟨[], st, .nil st, rfl, h⟩
  | (o, i) :: r, acc, st, hl, h => by
    obtain ⟨e, hd, h⟩ := h
    obtain ⟨ch, st', h1, h2, h3⟩ := run_chain (fun o i hoi => hl o i (by simp [hoi])) h
    exact ⟨(i, o, e) :: ch, st', .cons (hl o i (by simp)) hd h1, by simp [h2], by simpa using h3⟩
theorem zipIdx_get {ops : Array Oper} : ∀ o i, (o, i) ∈ ops.toList.zipIdx → ops[i]? = some o := fun o i h => by
  rw [List.mem_zipIdx_iff_getElem?] at h; simpa using h
theorem zipIdx_snd (ops : Array Oper) : ops.toList.zipIdx.map (·.2) = List.range ops.size := by
  rw [List.zipIdx_map_snd, ← List.range_eq_range']; simp
theorem awp_region {id : Nat} {ops : Array Oper} (h : Run P n ops (fun _ st' => Q .normal st') ops.toList.zipIdx [] st) : AWP P C n (.region id ops false) Q st := fun a w hR => by
  obtain ⟨ch, st', h1, h2, h3⟩ := run_chain zipIdx_get h
  exact region_text h1 (by rw [h2, zipIdx_snd]) (fun a w hR => ⟨st', h3, hR⟩) hR
theorem awp_draw (hmix : P.follows .mixedOrders = true) {id : Nat} {ops : Array Oper} (hback : backward ops = true) (h : Run P n ops (fun acc st' => freeB ops (Region.before ops) acc.reverse = true ∧ Q .normal st') ops.toList.zipIdx [] st) : AWP P C n (.region id ops true) Q st := fun a w hR => by
  obtain ⟨ch, st', h1, h2, h3⟩ := run_chain zipIdx_get h
  simp only [List.append_nil, List.reverse_reverse] at h3
  exact region_any hmix h1 (by rw [h2, zipIdx_snd]) hback h3.1 (fun a w hR => ⟨st', h3.2, hR⟩) hR
section run
variable {ops : Array Oper} {K : List (Nat × Oper × Ev) → St → Prop} {r : List (Oper × Nat)} {acc : List (Nat × Oper × Ev)} {o : Oper} {i : Nat}
theorem run_nil (h : K acc st) : Run P n ops K [] acc st := h
theorem run_op {v : V} {u : List (Nat × Ob)} (hg : guardOf n ops o st = some true) (h : aeff P (idOf o) (ev n st.s) st.m o.op = some (v, u)) (hr : Run P n ops K r ((i, o, ⟨v, u, fpOf (idOf o) (ev n st.s) o.op⟩) :: acc) (st.put o.dst v u)) :
    Run P n ops K ((o, i) :: r) acc st := ⟨_, .inr (.inl ⟨hg, ⟨v, h, VLe.refl v⟩, rfl⟩), hr⟩
theorem run_opW {v0 v : V} {u : List (Nat × Ob)} (hg : guardOf n ops o st = some true) (h : aeff P (idOf o) (ev n st.s) st.m o.op = some (v0, u)) (hle : VLe v0 v) (hr : Run P n ops K r ((i, o, ⟨v, u, fpOf (idOf o) (ev n st.s) o.op⟩) :: acc) (st.put o.dst v u)) :
    Run P n ops K ((o, i) :: r) acc st := ⟨_, .inr (.inl ⟨hg, ⟨v0, h, hle⟩, rfl⟩), hr⟩
theorem run_gen {e : Ev} (hg : guardOf n ops o st = some true) (h : GenDoes P n o st e) (hr : Run P n ops K r ((i, o, e) :: acc) (st.put o.dst e.v e.u)) : Run P n ops K ((o, i) :: r) acc st := ⟨e, .inr (.inr (.inr ⟨hg, h⟩)), hr⟩
theorem run_stO (hg : guardOf n ops o st = some true) {t : TypeId} {a x : Operand} {k j sz off d : Nat} {es : List (List T)} {ee : TypeId} {rw : List T} (ho : o.op = .store t a x) (ha : ev n st.s a = .re k j sz off) (hx : ev n st.s x = .ar d) (hm : st.m k = .dar es ee) (hr : es[j]? = some rw) (hj : rw[off]? = some .any) (hes : szOf P ee = some sz) (hsz : szOf P t = some 1)
    (hK : Run P n ops K r ((i, o, ⟨.jk, [(k, .dah es ee [(j, off, d)])], [k]⟩) :: acc) (st.put o.dst .jk [(k, .dah es ee [(j, off, d)])])) : Run P n ops K ((o, i) :: r) acc st :=
  run_gen hg (fun s' m' h1 h2 C G X w ρ hM hE => by
    have ha' := hE a
    have hx' := hE x
    rw [h1 a (by rw [ho]; simp [Op.operands]), ha] at ha'
    rw [h1 x (by rw [ho]; simp [Op.operands]), hx] at hx'
    exact did_store_dah hM (by rw [h2 k (by simp)]; exact hm) hes hr hj hsz ho ha' hx') hK
theorem run_no (hg : guardOf n ops o st = some false) (hr : Run P n ops K r ((i, o, ⟨.tp [], [], []⟩) :: acc) (st.put o.dst (.tp []) [])) : Run P n ops K ((o, i) :: r) acc st := ⟨_, .inl ⟨hg, rfl⟩, hr⟩
theorem run_call (hg : guardOf n ops o st = some true) {c : Call} {fop : Operand} {f : FuncId} {caps : List V} (ks : List Nat) (D : List (Nat × Nat)) {cargs : List V} {os os' : Nat → Ob} {rv : V} (ho : o.op = .call c) (hc : c.callee = .value fop) (hf : ev n st.s fop = .fn f caps) (hAC : AC P f cargs os rv os')
    (hD1 : (D.map (·.1)).Nodup) (hD2 : (D.map (·.2)).Nodup) (hp : PassL (app st.m (fzU st.m ks)) (qOf D) ks os (c.args.toList.map (ev n st.s) ++ caps) cargs) (hdom : ∀ k, os k ≠ .no → k ∈ D.map (·.1)) (hdom' : ∀ k, os' k ≠ .no → k ∈ D.map (·.1))
    (hos : ∀ p ∈ D, os p.1 ≠ .no → app st.m (fzU st.m ks) p.2 = (os p.1).ren (qOf D) ∧ ∀ k ∈ (os p.1).ids, os k ≠ .no) (hnew : ∀ p ∈ D, os p.1 = .no → app st.m (fzU st.m ks) p.2 = .no ∧ os' p.1 ≠ .no)
    (hr : Run P n ops K r ((i, o, ⟨rv.ren (qOf D), fzU st.m ks ++ leave os' (qOf D) D, fpOf 0 (ev n st.s) o.op ++ ks ++ D.map (·.2)⟩) :: acc) (st.put o.dst (rv.ren (qOf D)) (fzU st.m ks ++ leave os' (qOf D) D))) :
    Run P n ops K ((o, i) :: r) acc st :=
  ⟨_, .inr (.inr (.inl ⟨hg, c, fop, f, caps, ks, D, cargs, os, os', rv, ho, hc, hf, hAC, hD1, hD2, hp, hdom, hdom', hos, hnew, rfl⟩)), hr⟩
def noOb : Nat → Ob := fun _ => .no
theorem run_pure (hg : guardOf n ops o st = some true) {c : Call} {fop : Operand} {f : FuncId} {caps : List V} (ks : List Nat) {cargs : List V} {rv : V} (ho : o.op = .call c) (hc : c.callee = .value fop) (hf : ev n st.s fop = .fn f caps) (hAC : AC P f cargs noOb rv noOb)
    (hp : PassL (app st.m (fzU st.m ks)) (fun k => k) ks noOb (c.args.toList.map (ev n st.s) ++ caps) cargs)
    (hr : Run P n ops K r ((i, o, ⟨rv, fzU st.m ks, fpOf 0 (ev n st.s) o.op ++ ks⟩) :: acc) (st.put o.dst rv (fzU st.m ks))) : Run P n ops K ((o, i) :: r) acc st := by
  have hq : qOf [] = fun k => k := by funext k; rfl
  refine run_call hg ks [] ho hc hf hAC (by simp) (by simp) (by rw [hq]; exact hp) (fun k h => absurd rfl h) (fun k h => absurd rfl h) (fun p hp => by simp at hp) (fun p hp => by simp at hp) ?_
  rw [hq, V.ren_id]
  simpa [leave] using hr
end run
def resOf (P : Program) (n : Nat) (st : St) : List ResultVar → Option (List V)
  | [] => some []
  | .tmp t :: r => match resOf P n st r with
    | some vs => some (ev n st.s (.tmp t) :: vs)
    | none => none
  | .cell a t :: r => match cellsAt st.m (ev n st.s (.tmp a)) with
    | some cells => match takeT P t cells, resOf P n st r with
      | some v, some vs => some (v :: vs)
      | _, _ => none
    | none => none
def one1 : List V → V
  | [v] => v
  | vs => .tp vs
def resVar (tmps : Array Value) : ResultVar → Sem Value
  | .tmp t => pure (tmps.getD t undef)
  | .cell a t => do loadVar t (← asAddr (tmps.getD a undef))
theorem results_eq (fn : Func) (tmps : Array Value) : results fn tmps = (do
    let vs ← fn.results.mapM (resVar tmps)
    pure (if h : vs.size = 1 then vs[0] else .tuple vs)) := by
  unfold results
  congr 1
theorem resOf_run {C : Cx} {fn : Func} {st : St} {a : Act} {w : World} {G : Im} {X : Xm} (hM : Mem P C st.m w G X) (ht : ∀ t, t < n → V.Is G X (st.s t) (a.eval (.tmp t))) {vs : List V} (h : resOf P n st fn.results.toList = some vs) :
    ∃ y, (results fn a.tmps).run P w = .ok y w ∧ V.Is G X (one1 vs) y := by
  have key : ∀ (l : List ResultVar) (vs : List V), resOf P n st l = some vs → ∃ ys : List Value, (l.mapM (resVar a.tmps)).run P w = .ok ys w ∧ V.IsL G X vs ys := by
    intro l
    induction l with
    | nil => intro vs h; simp [resOf] at h; subst h; exact ⟨[], by simp, by rw [V.IsL]⟩
    | cons x l ih =>
      intro vs h
      cases x with
      | tmp t =>
        simp only [resOf] at h
        cases hr : resOf P n st l with
        | none => rw [hr] at h; simp at h
        | some vs' =>
          rw [hr] at h; simp at h; subst h
          obtain ⟨ys, h1, h2⟩ := ih vs' hr
          exact ⟨a.eval (.tmp t) :: ys, by simp only [List.mapM_cons, Sem.run_bind, resVar, Sem.run_pure, Result.andThen_ok, h1, Act.eval], by rw [V.IsL]; exact ⟨_, _, rfl, Rel.evs ht (.tmp t), h2⟩⟩
      | cell b t =>
        simp only [resOf] at h
        cases hc : cellsAt st.m (ev n st.s (.tmp b)) with
        | none => rw [hc] at h; simp at h
        | some cells =>
          rw [hc] at h
          simp only at h
          cases hv : takeT P t cells with
          | none => rw [hv] at h; simp at h
          | some v =>
            cases hr : resOf P n st l with
            | none => rw [hv, hr] at h; simp at h
            | some vs' =>
              rw [hv, hr] at h; simp at h; subst h
              obtain ⟨ys, h1, h2⟩ := ih vs' hr
              obtain ⟨blk, off, cur, e, fr, hx, hw, hat⟩ := cellsAt_is hM hc (Rel.evs ht (.tmp b))
              obtain ⟨y, hy, hi⟩ := run_load_is hv hw hat
              have hx' : a.tmps.getD b undef = .pointer (some ⟨blk, off, none⟩) := hx
              refine ⟨y :: ys, ?_, by rw [V.IsL]; exact ⟨_, _, rfl, hi, h2⟩⟩
              simp only [Instr.loadAt, Instr.sureAddr, Sem.run_bind, Sem.run_pure, Result.andThen_ok] at hy
              simp only [List.mapM_cons, Sem.run_bind, resVar, hx', asAddr, Sem.run_pure, Result.andThen_ok, hy, h1]
  obtain ⟨ys, h1, h2⟩ := key _ vs h
  have hl := h2.length
  rw [results_eq, Array.mapM_eq_mapM_toList]
  simp only [Sem.run_bind, Sem.run_map, h1, Result.andThen_ok, Sem.run_pure]
  refine ⟨_, rfl, ?_⟩
  match vs, ys, h2, hl with
  | [], [], _, _ => simp [one1, V.Is, V.IsL]
  | [v], [y], h2, _ =>
    rw [V.IsL] at h2
    obtain ⟨y', ys', he, h3, _⟩ := h2
    simp at he; obtain ⟨rfl, _⟩ := he
    simpa [one1] using h3
  | v1 :: v2 :: vs, y1 :: y2 :: ys, h2, _ => simp only [one1]; rw [V.Is]; exact ⟨_, by simp, h2⟩
def Give1 (m : Nat → Ob) (ks : List Nat) (v r : V) : Prop :=
  v = r ∨ (∃ t, toT m v = some t ∧ r = .t t ∧ ∀ k ∈ fz v, k ∈ ks) ∨ (∃ vs ts, v = .ag vs ∧ toTs m vs = some ts ∧ r = .ag (ts.map .t) ∧ ∀ k ∈ vs.flatMap fz, k ∈ ks)
def GiveL (m : Nat → Ob) (ks : List Nat) : List V → List V → Prop
  | [], [] => True
  | v :: vs, r :: rs => Give1 m ks v r ∧ GiveL m ks vs rs
  | _, _ => False
theorem Give1.is {C : Cx} {m : Nat → Ob} {w : World} {G : Im} {X : Xm} (hM : Mem P C m w G X) {ks : List Nat} (hun : ∀ k ∈ ks, unmut m k) {v r : V} {x : Value} (h : Give1 m ks v r) (hi : V.Is G X v x) : V.Is G X r x := by
  rcases h with rfl | h | h
  · exact hi
  · exact Pass.is hM (q := fun k => k) (os := noOb) (.inr (.inl h)) hun (fun k hk => absurd rfl hk) hi
  · exact Pass.is hM (q := fun k => k) (os := noOb) (.inr (.inr h)) hun (fun k hk => absurd rfl hk) hi
theorem GiveL.is {C : Cx} {m : Nat → Ob} {w : World} {G : Im} {X : Xm} (hM : Mem P C m w G X) {ks : List Nat} (hun : ∀ k ∈ ks, unmut m k) : ∀ {vs rs : List V} {xs : List Value}, GiveL m ks vs rs → V.IsL G X vs xs → V.IsL G X rs xs
  | [], [], _, _, h => h
  | v :: vs, r :: rs, xs, h, hi => by
    rw [V.IsL] at hi ⊢
    obtain ⟨y, ys, h1, h2, h3⟩ := hi
    exact ⟨y, ys, h1, Give1.is hM hun h.1 h2, GiveL.is hM hun h.2 h3⟩
  | [], _ :: _, _, h, _ => h.elim
  | _ :: _, [], _, h, _ => h.elim
theorem GiveL.length {m : Nat → Ob} {ks : List Nat} : ∀ {vs rs : List V}, GiveL m ks vs rs → vs.length = rs.length
  | [], [], _ => rfl
  | v :: vs, r :: rs, h => by simp [GiveL.length h.2]
  | [], _ :: _, h => h.elim
  | _ :: _, [], h => h.elim
theorem one1_is {m : Nat → Ob} {ks : List Nat} {C : Cx} {w : World} {G : Im} {X : Xm} (hM : Mem P C m w G X) (hun : ∀ k ∈ ks, unmut m k) {vs rs : List V} (h : GiveL m ks vs rs) {y : Value} (hi : V.Is G X (one1 vs) y) : V.Is G X (one1 rs) y := by
  have hl := h.length
  match vs, rs, h, hl with
  | [], [], _, _ => exact hi
  | [v], [r], h, _ => exact Give1.is hM hun h.1 hi
  | v1 :: v2 :: vs, r1 :: r2 :: rs, h, _ =>
    simp only [one1] at hi ⊢
    rw [V.Is] at hi ⊢
    obtain ⟨xs, hx, hl⟩ := hi
    exact ⟨xs, hx, GiveL.is hM hun h hl⟩
def Ends (P : Program) (n : Nat) (fn : Func) (rs : List V) (os' : Nat → Ob) (st : St) : Prop :=
  ∃ (vs : List V) (ks ob : List Nat), resOf P n st fn.results.toList = some vs ∧ GiveL (app st.m (fzU st.m ks)) ks vs rs ∧ (∀ k, os' k = if k ∈ ob then app st.m (fzU st.m ks) k else .no) ∧ (∀ k ∈ ob, ∀ j ∈ (app st.m (fzU st.m ks) k).ids, j ∈ ob) ∧ (∀ k ∈ V.idsL rs, k ∈ ob)
def Fin (P : Program) (n : Nat) (fn : Func) (rs : List V) (os' : Nat → Ob) : Exit → St → Prop
  | .normal, st => Ends P n fn rs os' st
  | .ret, st => Ends P n fn rs os' st
  | _, _ => False
theorem idsL_one1 {rs : List V} {ob : List Nat} (h : ∀ k ∈ V.idsL rs, k ∈ ob) : ∀ k ∈ (one1 rs).ids, k ∈ ob := by
  match rs with
  | [] => intro k hk; simp [one1, V.ids, V.idsL] at hk
  | [r] => intro k hk; exact h k (by simp [V.idsL]; exact hk)
  | r1 :: r2 :: rs => intro k hk; simp only [one1, V.ids] at hk; exact h k hk
theorem AC_intro {f : FuncId} {fn : Func} {c : Code} (hf : P.funcs[f]? = some fn) (hb : fn.body = some c) (hname : (fn.name == "runtime.NumGoroutine") = false) {args rs : List V} {os os' : Nat → Ob} (hlen : args.length ≤ fn.ntmps)
    (hkeep : ∀ k, os k ≠ .no → os' k ≠ .no)
    (h : ∀ C : Cx, (∀ k, C.X0 k ≠ none → os k ≠ .no) → AWP P C fn.ntmps c (Fin P fn.ntmps fn rs os') ⟨fun t => args.getD t .jk, os⟩) : AC P f args os (one1 rs) os' := by
  refine ⟨⟨fn, hf, by simp [hb], hname⟩, ?_⟩
  intro w G X own xs hM hargs
  have hxl := hargs.length
  have hX0 : ∀ k, X k ≠ none → os k ≠ .no := fun k hk hn => hk ((hM.free k).2 hn)
  refine calls_of_wp hf hb (wp_mono (h ⟨w, G, own, X⟩ hX0 _ w ⟨G, X, hM, rfl, by simp; omega, ?_⟩) ?_)
  · intro t ht
    simp only [Act.eval, Array.getD_eq_getD_getElem?, Array.getElem?_append, List.size_toArray]
    by_cases h1 : t < args.length
    · obtain ⟨x, hx, hi⟩ := hargs.get t args[t] (List.getElem?_eq_getElem h1)
      rw [if_pos (by omega), List.getElem?_toArray, hx, List.getD_eq_getElem?_getD, List.getElem?_eq_getElem h1]
      exact hi
    · rw [List.getD_eq_getElem?_getD, List.getElem?_eq_none (by omega)]
      simp only [Option.getD_none]
      rw [V.Is]; trivial
  · rintro e a' w' ⟨st', hq, G', X', hM', hd, hs, ht⟩
    have hends : ∀ (he : Ends P fn.ntmps fn rs os' st'), a'.defers = [] ∧ ∃ v, (results fn a'.tmps).run P w' = .ok v w' ∧ ∃ x G' X', Ending.returned v = .returned x ∧ Mem P ⟨w, G, own, X⟩ os' w' G' X' ∧ V.Is G' X' (one1 rs) x := by
      rintro ⟨vs, ks, ob, h1, h2, h3, h4, h5⟩
      obtain ⟨y, hy, hi⟩ := resOf_run hM' ht h1
      obtain ⟨G2, hG2, hM2⟩ := hM'.freezeL ks
      have hi2 := one1_is hM2 (fun k hk => unmut_fzU ks _ k (.inr hk)) h2 (V.Is.mono hG2 (Xle.refl _) _ _ hi)
      have hob : ∀ k, X k ≠ none → k ∈ ob := fun k hk => by
        have := hkeep k (hX0 k hk)
        rw [h3 k] at this
        by_cases hin : k ∈ ob
        · exact hin
        · rw [if_neg hin] at this; exact absurd rfl this
      have hM3 := hM2.restrict ob hob h4
      have e3 : os' = fun k => if k ∈ ob then app st'.m (fzU st'.m ks) k else .no := funext h3
      rw [e3]
      exact ⟨hd, y, hy, y, G2, _, rfl, hM3, V.Is.restrict (idsL_one1 h5) hi2⟩
    cases e with
    | normal => exact hends hq
    | ret => exact hends hq
    | _ => exact hq.elim
end
end Go.Abs
end
section
set_option linter.unusedSimpArgs false
set_option linter.unusedVariables false
namespace Go.Abs
section
variable {P : Program} {C : Cx} {n : Nat} {Q : Exit → St → Prop} {st : St} {ops : Array Oper}
theorem upd_at {α : Type} (f : Nat → α) (k : Nat) (v : α) (i : Nat) : upd f k v i = if i = k then v else f i := rfl
theorem ev_tmp (n : Nat) (s : Nat → V) (t : Nat) : ev n s (.tmp t) = if t < n then s t else .jk := rfl
theorem ev_const (n : Nat) (s : Nat → V) (v : Value) : ev n s (.const v) = ofVal v := rfl
theorem ev_func (n : Nat) (s : Nat → V) (f : FuncId) : ev n s (.func f) = .fn f [] := rfl
variable {K : St → Prop} {r : List Oper} {o : Oper}
def slots : List (Nat × V) → Nat → V
  | [], _ => .jk
  | (k, v) :: r, i => if i = k then v else slots r i
def objs : List (Nat × Ob) → Nat → Ob
  | [], _ => .no
  | (k, v) :: r, i => if i = k then v else objs r i
theorem slots_nil (i : Nat) : slots [] i = .jk := rfl
theorem slots_cons (k : Nat) (v : V) (r : List (Nat × V)) (i : Nat) : slots ((k, v) :: r) i = if i = k then v else slots r i := rfl
theorem objs_nil (i : Nat) : objs [] i = .no := rfl
theorem objs_cons (k : Nat) (v : Ob) (r : List (Nat × Ob)) (i : Nat) : objs ((k, v) :: r) i = if i = k then v else objs r i := rfl
def HasS (s : Nat → V) (ok : List Nat) : List (Nat × V) → Prop
  | [] => True
  | (i, v) :: r => (s i = v ∧ ∀ k ∈ v.ids, k ∈ ok) ∧ HasS s ok r
def HasM (m : Nat → Ob) (ok : List Nat) : List (Nat × Ob) → Prop
  | [] => True
  | (i, v) :: r => (m i = v ∧ ∀ k ∈ v.ids, k ∈ ok) ∧ HasM m ok r
theorem hasS_spec {s : Nat → V} {ok : List Nat} : ∀ {l : List (Nat × V)}, HasS s ok l → ∀ i, slots l i = .jk ∨ (slots l i = s i ∧ ∀ k ∈ (s i).ids, k ∈ ok)
  | [], _, i => .inl rfl
  | (j, v) :: r, h, i => by
    rw [slots_cons]
    by_cases hij : i = j
    · subst hij; rw [if_pos rfl]; exact .inr ⟨h.1.1.symm, by rw [h.1.1]; exact h.1.2⟩
    · rw [if_neg hij]; exact hasS_spec h.2 i
theorem hasM_spec {m : Nat → Ob} {ok : List Nat} : ∀ {l : List (Nat × Ob)}, HasM m ok l → ∀ i, (i ∈ l.map (·.1) → objs l i = m i ∧ ∀ k ∈ (m i).ids, k ∈ ok) ∧ (i ∉ l.map (·.1) → objs l i = .no)
  | [], _, i => ⟨fun h => by simp at h, fun _ => rfl⟩
  | (j, v) :: r, h, i => by
    rw [objs_cons]
    by_cases hij : i = j
    · subst hij; rw [if_pos rfl]; exact ⟨fun _ => ⟨h.1.1.symm, by rw [h.1.1]; exact h.1.2⟩, fun hn => by simp at hn⟩
    · rw [if_neg hij]
      obtain ⟨h1, h2⟩ := hasM_spec h.2 i
      exact ⟨fun hm => h1 (by simp [hij] at hm; simpa using hm), fun hn => h2 (by simp [hij] at hn; simpa using hn)⟩
theorem weak_to {s : Nat → V} {m : Nat → Ob} (l : List (Nat × V)) (o : List (Nat × Ob)) (hC : ∀ k, C.X0 k ≠ none → k ∈ o.map (·.1)) (hs : HasS s (o.map (·.1)) l) (hm : HasM m (o.map (·.1)) o) : Weak P C n ⟨s, m⟩ ⟨slots l, objs o⟩ := by
  rintro a w ⟨G, X, hM, hd, hsz, ht⟩
  have e : objs o = fun k => if k ∈ o.map (·.1) then m k else .no := by
    funext k
    obtain ⟨h1, h2⟩ := hasM_spec hm k
    by_cases hk : k ∈ o.map (·.1)
    · rw [if_pos hk]; exact (h1 hk).1
    · rw [if_neg hk]; exact h2 hk
  refine ⟨G, fun k => if k ∈ o.map (·.1) then X k else none, ?_, hd, hsz, fun t htn => ?_⟩
  · simp only; rw [e]
    exact hM.restrict (o.map (·.1)) hC (fun k hk => ((hasM_spec hm k).1 hk).2)
  · rcases hasS_spec hs t with h | ⟨h, h2⟩
    · simp only; rw [h, V.Is]; trivial
    · simp only; rw [h]; exact V.Is.restrict h2 (ht t htn)
def NxtF {α : Type} (P : Program) (C : Cx) (n : Nat) (μ : α → Nat) (sl : α → List (Nat × V)) (ob : α → List (Nat × Ob)) (Inv : α → Prop) (a : α) (Q : Exit → St → Prop) : Exit → St → Prop
  | .normal, st => ∃ a', Inv a' ∧ μ a' < μ a ∧ Weak P C n st ⟨slots (sl a'), objs (ob a')⟩
  | e, st => Q e st
theorem takeT_agg {t : TypeId} {k : Nat} (h1 : aggOf P t = some true) (h2 : szOf P t = some k) (cs : List V) : takeT P t cs = if k ≤ cs.length then some (.ag (cs.take k)) else none := by simp [takeT, h1, h2]
theorem takeT_one {t : TypeId} (h1 : aggOf P t = some false) (cs : List V) : takeT P t cs = cs.head? := by simp [takeT, h1]
theorem take_all {α : Type} {l : List α} {k : Nat} (h : l.length ≤ k) : l.take k = l := List.take_of_length_le h
theorem splice_all {α : Type} {cs vs : List α} (h : cs.length ≤ vs.length) : splice cs 0 vs = vs := by
  unfold splice; rw [List.take_zero, List.nil_append, Nat.zero_add, List.drop_of_length_le h, List.append_nil]
theorem give_id {m : Nat → Ob} {ks : List Nat} (v : V) : Give1 m ks v v := .inl rfl
theorem ends_pure {fn : Func} {rs : List V} {s' : Nat → V} {m' : Nat → Ob} {vs : List V} (ks : List Nat) (h1 : resOf P n ⟨s', m'⟩ fn.results.toList = some vs) (h2 : GiveL (app m' (fzU m' ks)) ks vs rs) (h3 : V.idsL rs = []) : Ends P n fn rs noOb ⟨s', m'⟩ :=
  ⟨vs, ks, [], h1, h2, fun k => by simp [noOb], fun k hk => by simp at hk, fun k hk => by rw [h3] at hk; exact hk⟩
end
end Go.Abs
namespace Go.Abs
theorem args_nil {n : Nat} {s : Nat → V} {caps : List V} : ([] : List Operand).map (ev n s) ++ caps = caps := rfl
theorem args_cons {n : Nat} {s : Nat → V} {caps vs : List V} {x : Operand} {xs : List Operand} {v : V} (h : ev n s x = v) (t : xs.map (ev n s) ++ caps = vs) : (x :: xs).map (ev n s) ++ caps = v :: vs := by
  rw [List.map_cons, List.cons_append, h, t]
end Go.Abs
end
section
set_option linter.unusedSimpArgs false
set_option linter.unusedVariables false
namespace Go.Abs
def putS (s : Nat → V) (dst : Option Tmp) (v : V) : Nat → V := match dst with | some d => upd s d v | none => s
section
variable {P : Program} {C : Cx} {n : Nat} {ops : Array Oper} {K : List (Nat × Oper × Ev) → St → Prop} {r : List (Oper × Nat)} {acc : List (Nat × Oper × Ev)} {ix : Nat} {s : Nat → V} {m : Nat → Ob} {d : Tmp} {ty : TypeId} {pos : String} {after : Array Edge} {g : Option (Nat × Bool)}
theorem r_any {op : Op} {dst : Option Tmp} {v : V} {u : List (Nat × Ob)} {s' : Nat → V} {m' : Nat → Ob} {fp : List Nat} (hg : guardOf n ops ⟨dst, op, ty, pos, after, g⟩ ⟨s, m⟩ = some true) (h : aeff P (idOf ⟨dst, op, ty, pos, after, g⟩) (ev n s) m op = some (v, u)) (hfp : fpOf (idOf ⟨dst, op, ty, pos, after, g⟩) (ev n s) op = fp)
    (hs : putS s dst v = s') (hm : app m u = m') (hr : Run P n ops K r ((ix, ⟨dst, op, ty, pos, after, g⟩, ⟨v, u, fp⟩) :: acc) ⟨s', m'⟩) : Run P n ops K ((⟨dst, op, ty, pos, after, g⟩, ix) :: r) acc ⟨s, m⟩ := by
  subst hs; subst hm; subst hfp; exact run_op hg h (by cases dst <;> exact hr)
theorem r_no {op : Op} (hg : guardOf n ops ⟨some d, op, ty, pos, after, g⟩ ⟨s, m⟩ = some false) (hr : Run P n ops K r ((ix, ⟨some d, op, ty, pos, after, g⟩, ⟨.tp [], [], []⟩) :: acc) ⟨upd s d (.tp []), m⟩) : Run P n ops K ((⟨some d, op, ty, pos, after, g⟩, ix) :: r) acc ⟨s, m⟩ := run_no hg hr
theorem r_move {x : Operand} {v : V} (hg : guardOf n ops ⟨some d, .move x, ty, pos, after, g⟩ ⟨s, m⟩ = some true) (hx : ev n s x = v) {fp : List Nat} (hfp : fpOf (idOf ⟨some d, .move x, ty, pos, after, g⟩) (ev n s) (.move x) = fp) (hr : Run P n ops K r ((ix, ⟨some d, .move x, ty, pos, after, g⟩, ⟨v, [], fp⟩) :: acc) ⟨upd s d v, m⟩) : Run P n ops K ((⟨some d, .move x, ty, pos, after, g⟩, ix) :: r) acc ⟨s, m⟩ :=
  r_any (v := v) (u := []) hg (by simp only [aeff, hx]) hfp rfl rfl hr
theorem r_assign {x : Operand} {v : V} (hg : guardOf n ops ⟨some d, .assign x, ty, pos, after, g⟩ ⟨s, m⟩ = some true) (hx : ev n s x = v) {fp : List Nat} (hfp : fpOf (idOf ⟨some d, .assign x, ty, pos, after, g⟩) (ev n s) (.assign x) = fp) (hr : Run P n ops K r ((ix, ⟨some d, .assign x, ty, pos, after, g⟩, ⟨v, [], fp⟩) :: acc) ⟨upd s d v, m⟩) : Run P n ops K ((⟨some d, .assign x, ty, pos, after, g⟩, ix) :: r) acc ⟨s, m⟩ :=
  r_any (v := v) (u := []) hg (by simp only [aeff, hx]) hfp rfl rfl hr
theorem r_alloc {t : TypeId} {zs : List V} (hg : guardOf n ops ⟨some d, .alloc t, ty, pos, after, g⟩ ⟨s, m⟩ = some true) (hz : zcells P t = some zs) (hid : isNo (m d) = true) {fp : List Nat} (hfp : fpOf (idOf ⟨some d, .alloc t, ty, pos, after, g⟩) (ev n s) (.alloc t) = fp) (hr : Run P n ops K r ((ix, ⟨some d, .alloc t, ty, pos, after, g⟩, ⟨.rf d 0, [(d, .box zs)], fp⟩) :: acc) ⟨upd s d (.rf d 0), upd m d (.box zs)⟩) :
    Run P n ops K ((⟨some d, .alloc t, ty, pos, after, g⟩, ix) :: r) acc ⟨s, m⟩ := r_any (v := .rf d 0) (u := [(d, .box zs)]) hg (by simp only [aeff, hz, idOf, Option.getD_some, hid, if_true]) hfp rfl rfl hr
theorem r_box {t : TypeId} {x : Operand} {v : V} {cs : List V} (hg : guardOf n ops ⟨some d, .box t x, ty, pos, after, g⟩ ⟨s, m⟩ = some true) (hx : ev n s x = v) (hb : boxable v = true) (hc : vcells v = cs) (hid : isNo (m d) = true) {fp : List Nat} (hfp : fpOf (idOf ⟨some d, .box t x, ty, pos, after, g⟩) (ev n s) (.box t x) = fp) (hr : Run P n ops K r ((ix, ⟨some d, .box t x, ty, pos, after, g⟩, ⟨.rf d 0, [(d, .box cs)], fp⟩) :: acc) ⟨upd s d (.rf d 0), upd m d (.box cs)⟩) :
    Run P n ops K ((⟨some d, .box t x, ty, pos, after, g⟩, ix) :: r) acc ⟨s, m⟩ := by
  subst hc; exact r_any (v := .rf d 0) (u := [(d, .box (vcells v))]) hg (by simp only [aeff, hx, hb, idOf, Option.getD_some, hid, and_self, if_true]) hfp rfl rfl hr
theorem r_load1 {t : TypeId} {x : Operand} {p v : V} {cs : List V} (hg : guardOf n ops ⟨some d, .load t x, ty, pos, after, g⟩ ⟨s, m⟩ = some true) (ha : aggOf P t = some false) (hx : ev n s x = p) (hc : cellsAt m p = some cs) (hv : cs.head? = some v) {fp : List Nat} (hfp : fpOf (idOf ⟨some d, .load t x, ty, pos, after, g⟩) (ev n s) (.load t x) = fp) (hr : Run P n ops K r ((ix, ⟨some d, .load t x, ty, pos, after, g⟩, ⟨v, [], fp⟩) :: acc) ⟨upd s d v, m⟩) :
    Run P n ops K ((⟨some d, .load t x, ty, pos, after, g⟩, ix) :: r) acc ⟨s, m⟩ := r_any (v := v) (u := []) hg (by simp only [aeff, hx, hc, takeT_one ha, hv]) hfp rfl rfl hr
theorem r_loadN {t : TypeId} {x : Operand} {p : V} {cs vs : List V} {k : Nat} (hg : guardOf n ops ⟨some d, .load t x, ty, pos, after, g⟩ ⟨s, m⟩ = some true) (ha : aggOf P t = some true) (hs : szOf P t = some k) (hx : ev n s x = p) (hc : cellsAt m p = some cs) (hk : k ≤ cs.length) (hv : cs.take k = vs) {fp : List Nat} (hfp : fpOf (idOf ⟨some d, .load t x, ty, pos, after, g⟩) (ev n s) (.load t x) = fp) (hr : Run P n ops K r ((ix, ⟨some d, .load t x, ty, pos, after, g⟩, ⟨.ag vs, [], fp⟩) :: acc) ⟨upd s d (.ag vs), m⟩) :
    Run P n ops K ((⟨some d, .load t x, ty, pos, after, g⟩, ix) :: r) acc ⟨s, m⟩ := by
  subst hv; exact r_any (v := .ag (cs.take k)) (u := []) hg (by simp only [aeff, hx, hc, takeT_agg ha hs, hk, if_true]) hfp rfl rfl hr
theorem r_storeB {t : TypeId} {p x : Operand} {k off : Nat} {v : V} {cs ws cs' : List V} (hg : guardOf n ops ⟨none, .store t p x, ty, pos, after, g⟩ ⟨s, m⟩ = some true) (hp : ev n s p = .rf k off) (hm : m k = .box cs) (hx : ev n s x = v) (hw : vcells v = ws) (ho : oneAll ws = true) (hs : szOf P t = some ws.length)
    (hl : off + ws.length ≤ cs.length) (hn : splice cs off ws = cs') {fp : List Nat} (hfp : fpOf (idOf ⟨none, .store t p x, ty, pos, after, g⟩) (ev n s) (.store t p x) = fp) (hr : Run P n ops K r ((ix, ⟨none, .store t p x, ty, pos, after, g⟩, ⟨.jk, [(k, .box cs')], fp⟩) :: acc) ⟨s, upd m k (.box cs')⟩) : Run P n ops K ((⟨none, .store t p x, ty, pos, after, g⟩, ix) :: r) acc ⟨s, m⟩ := by
  subst hn; subst hw; exact r_any (v := .jk) (u := [(k, .box (splice cs off (vcells v)))]) hg (by simp only [aeff, astore, hp, hm, hx, ho, hs, hl, and_self, if_true]) hfp rfl rfl hr
theorem r_storeA {t e : TypeId} {p x : Operand} {k i sz off : Nat} {v : V} {es es' : List (List T)} {row ts : List T} {ws : List V} (hg : guardOf n ops ⟨none, .store t p x, ty, pos, after, g⟩ ⟨s, m⟩ = some true) (hp : ev n s p = .re k i sz off) (hm : m k = .arr es e true) (hx : ev n s x = v) (hw : vcells v = ws) (ho : oneAll ws = true) (hs : szOf P t = some ws.length)
    (hrow : es[i]? = some row) (hts : toTs m ws = some ts) (hrl : row.length = sz) (he : szOf P e = some sz) (hl : off + ws.length ≤ sz) (hk : k ∉ ws.flatMap fz) {u : List (Nat × Ob)} (hu : fzU m (ws.flatMap fz) = u) {m' : Nat → Ob} (hm' : app m u = m') (hn : es.set i (splice row off ts) = es')
    {fp : List Nat} (hfp : fpOf (idOf ⟨none, .store t p x, ty, pos, after, g⟩) (ev n s) (.store t p x) = fp) (hr : Run P n ops K r ((ix, ⟨none, .store t p x, ty, pos, after, g⟩, ⟨.jk, u ++ [(k, .arr es' e true)], fp⟩) :: acc) ⟨s, upd m' k (.arr es' e true)⟩) : Run P n ops K ((⟨none, .store t p x, ty, pos, after, g⟩, ix) :: r) acc ⟨s, m⟩ := by
  subst hn; subst hw; subst hu; subst hm'
  refine r_any (v := .jk) hg (u := fzU m ((vcells v).flatMap fz) ++ [(k, .arr (es.set i (splice row off ts)) e true)]) (by simp only [aeff, astore, hp, hm, hx, ho, hs, hrow, hts, hrl, he, hl, hk, and_self, if_true, not_false_eq_true]) hfp rfl (by rw [app_append]; rfl) hr
theorem r_fieldAddr {t : TypeId} {x : Operand} {f off : Nat} {ft : TypeId} {p v : V} (hg : guardOf n ops ⟨some d, .fieldAddr t x f, ty, pos, after, g⟩ ⟨s, m⟩ = some true) (hf : fldOf P t f = some (off, ft)) (hx : ev n s x = p) (hv : fieldP off p = some v) {fp : List Nat} (hfp : fpOf (idOf ⟨some d, .fieldAddr t x f, ty, pos, after, g⟩) (ev n s) (.fieldAddr t x f) = fp) (hr : Run P n ops K r ((ix, ⟨some d, .fieldAddr t x f, ty, pos, after, g⟩, ⟨v, [], fp⟩) :: acc) ⟨upd s d v, m⟩) :
    Run P n ops K ((⟨some d, .fieldAddr t x f, ty, pos, after, g⟩, ix) :: r) acc ⟨s, m⟩ := r_any (v := v) (u := []) hg (by simp only [aeff, hx, hf, hv]) hfp rfl rfl hr
theorem r_field1 {t : TypeId} {x : Operand} {f off : Nat} {ft : TypeId} {cs : List V} {v : V} (hg : guardOf n ops ⟨some d, .field t x f, ty, pos, after, g⟩ ⟨s, m⟩ = some true) (hf : fldOf P t f = some (off, ft)) (ha : aggOf P ft = some false) (hx : ev n s x = .ag cs) (hv : (cs.drop off).head? = some v) {fp : List Nat} (hfp : fpOf (idOf ⟨some d, .field t x f, ty, pos, after, g⟩) (ev n s) (.field t x f) = fp) (hr : Run P n ops K r ((ix, ⟨some d, .field t x f, ty, pos, after, g⟩, ⟨v, [], fp⟩) :: acc) ⟨upd s d v, m⟩) :
    Run P n ops K ((⟨some d, .field t x f, ty, pos, after, g⟩, ix) :: r) acc ⟨s, m⟩ := r_any (v := v) (u := []) hg (by simp only [aeff, hx, hf, takeT_one ha, hv]) hfp rfl rfl hr
theorem r_fieldN {t : TypeId} {x : Operand} {f off k : Nat} {ft : TypeId} {cs vs : List V} (hg : guardOf n ops ⟨some d, .field t x f, ty, pos, after, g⟩ ⟨s, m⟩ = some true) (hf : fldOf P t f = some (off, ft)) (ha : aggOf P ft = some true) (hs : szOf P ft = some k) (hx : ev n s x = .ag cs) (hk : k ≤ (cs.drop off).length) (hv : (cs.drop off).take k = vs) {fp : List Nat} (hfp : fpOf (idOf ⟨some d, .field t x f, ty, pos, after, g⟩) (ev n s) (.field t x f) = fp) (hr : Run P n ops K r ((ix, ⟨some d, .field t x f, ty, pos, after, g⟩, ⟨.ag vs, [], fp⟩) :: acc) ⟨upd s d (.ag vs), m⟩) :
    Run P n ops K ((⟨some d, .field t x f, ty, pos, after, g⟩, ix) :: r) acc ⟨s, m⟩ := by
  subst hv; exact r_any (v := .ag ((cs.drop off).take k)) (u := []) hg (by simp only [aeff, hx, hf, takeT_agg ha hs, hk, if_true]) hfp rfl rfl hr
theorem r_indexAddr {t : TypeId} {x i : Operand} {e : TypeId} {sz : Nat} {p v : V} {k : IntKind} {j : Int} (hg : guardOf n ops ⟨some d, .indexAddr t x i, ty, pos, after, g⟩ ⟨s, m⟩ = some true) (he : elOf P t = some (e, sz)) (hx : ev n s x = p) (hi : ev n s i = .t (.sc (.int k j))) (h0 : 0 ≤ j) (hv : indexP m sz j.toNat p = some v) {fp : List Nat} (hfp : fpOf (idOf ⟨some d, .indexAddr t x i, ty, pos, after, g⟩) (ev n s) (.indexAddr t x i) = fp) (hr : Run P n ops K r ((ix, ⟨some d, .indexAddr t x i, ty, pos, after, g⟩, ⟨v, [], fp⟩) :: acc) ⟨upd s d v, m⟩) :
    Run P n ops K ((⟨some d, .indexAddr t x i, ty, pos, after, g⟩, ix) :: r) acc ⟨s, m⟩ := r_any (v := v) (u := []) hg (by simp only [aeff, hx, hi, he, h0, hv, if_true]) hfp rfl rfl hr
theorem r_indexS {t : TypeId} {x i : Operand} {b : ByteArray} {k : IntKind} {j : Int} (hg : guardOf n ops ⟨some d, .index t x i, ty, pos, after, g⟩ ⟨s, m⟩ = some true) (he : P.underlying t = some .string) (hx : ev n s x = .t (.sc (.str b))) (hi : ev n s i = .t (.sc (.int k j))) (h0 : 0 ≤ j) (h1 : j < b.size) {fp : List Nat} (hfp : fpOf (idOf ⟨some d, .index t x i, ty, pos, after, g⟩) (ev n s) (.index t x i) = fp) (hr : Run P n ops K r ((ix, ⟨some d, .index t x i, ty, pos, after, g⟩, ⟨.t (.sc (.int .u8 (byteAt b j.toNat).toNat)), [], fp⟩) :: acc) ⟨upd s d (.t (.sc (.int .u8 (byteAt b j.toNat).toNat))), m⟩) :
    Run P n ops K ((⟨some d, .index t x i, ty, pos, after, g⟩, ix) :: r) acc ⟨s, m⟩ := r_any (v := .t (.sc (.int .u8 (byteAt b j.toNat).toNat))) (u := []) hg (by simp only [aeff, hx, hi, he, h0, h1, and_self, if_true]) hfp rfl rfl hr
theorem r_len {t e : TypeId} {x : Operand} {v : V} {k : Nat} (hg : guardOf n ops ⟨some d, .call { callee := .builtin .len, args := #[x], argTypes := #[t] }, ty, pos, after, g⟩ ⟨s, m⟩ = some true) (ht : P.underlying t = some (.slice e)) (hx : ev n s x = v) (hl : lenV m v = some k) {fp : List Nat} (hfp : fpOf (idOf ⟨some d, .call { callee := .builtin .len, args := #[x], argTypes := #[t] }, ty, pos, after, g⟩) (ev n s) (.call { callee := .builtin .len, args := #[x], argTypes := #[t] }) = fp) (hr : Run P n ops K r ((ix, ⟨some d, .call { callee := .builtin .len, args := #[x], argTypes := #[t] }, ty, pos, after, g⟩, ⟨.t (.sc (.int .i64 k)), [], fp⟩) :: acc) ⟨upd s d (.t (.sc (.int .i64 k))), m⟩) :
    Run P n ops K ((⟨some d, .call { callee := .builtin .len, args := #[x], argTypes := #[t] }, ty, pos, after, g⟩, ix) :: r) acc ⟨s, m⟩ := r_any (v := .t (.sc (.int .i64 k))) (u := []) hg (by simp only [aeff, acall, ht, hx, hl]) hfp rfl rfl hr
theorem r_lenS {t : TypeId} {x : Operand} {b : ByteArray} (hg : guardOf n ops ⟨some d, .call { callee := .builtin .len, args := #[x], argTypes := #[t] }, ty, pos, after, g⟩ ⟨s, m⟩ = some true) (ht : P.underlying t = some .string) (hx : ev n s x = .t (.sc (.str b))) {fp : List Nat} (hfp : fpOf (idOf ⟨some d, .call { callee := .builtin .len, args := #[x], argTypes := #[t] }, ty, pos, after, g⟩) (ev n s) (.call { callee := .builtin .len, args := #[x], argTypes := #[t] }) = fp) (hr : Run P n ops K r ((ix, ⟨some d, .call { callee := .builtin .len, args := #[x], argTypes := #[t] }, ty, pos, after, g⟩, ⟨.t (.sc (.int .i64 b.size)), [], fp⟩) :: acc) ⟨upd s d (.t (.sc (.int .i64 b.size))), m⟩) :
    Run P n ops K ((⟨some d, .call { callee := .builtin .len, args := #[x], argTypes := #[t] }, ty, pos, after, g⟩, ix) :: r) acc ⟨s, m⟩ := r_any (v := .t (.sc (.int .i64 b.size))) (u := []) hg (by simp only [aeff, acall, ht, hx]) hfp rfl rfl hr
theorem r_bin {op : BinOp} {t t' : TypeId} {x y : Operand} {a b c : S} (hg : guardOf n ops ⟨some d, .binOp op t x y t', ty, pos, after, g⟩ ⟨s, m⟩ = some true) (hx : ev n s x = .t (.sc a)) (hy : ev n s y = .t (.sc b)) (h : abin op a b = some c) {fp : List Nat} (hfp : fpOf (idOf ⟨some d, .binOp op t x y t', ty, pos, after, g⟩) (ev n s) (.binOp op t x y t') = fp) (hr : Run P n ops K r ((ix, ⟨some d, .binOp op t x y t', ty, pos, after, g⟩, ⟨.t (.sc c), [], fp⟩) :: acc) ⟨upd s d (.t (.sc c)), m⟩) :
    Run P n ops K ((⟨some d, .binOp op t x y t', ty, pos, after, g⟩, ix) :: r) acc ⟨s, m⟩ := r_any (v := .t (.sc c)) (u := []) hg (by simp only [aeff, hx, hy, h]) hfp rfl rfl hr
theorem r_un {op : UnOp} {t : TypeId} {x : Operand} {a c : S} (hg : guardOf n ops ⟨some d, .unOp op t x, ty, pos, after, g⟩ ⟨s, m⟩ = some true) (hx : ev n s x = .t (.sc a)) (h : aun op a = some c) {fp : List Nat} (hfp : fpOf (idOf ⟨some d, .unOp op t x, ty, pos, after, g⟩) (ev n s) (.unOp op t x) = fp) (hr : Run P n ops K r ((ix, ⟨some d, .unOp op t x, ty, pos, after, g⟩, ⟨.t (.sc c), [], fp⟩) :: acc) ⟨upd s d (.t (.sc c)), m⟩) :
    Run P n ops K ((⟨some d, .unOp op t x, ty, pos, after, g⟩, ix) :: r) acc ⟨s, m⟩ := r_any (v := .t (.sc c)) (u := []) hg (by simp only [aeff, hx, h]) hfp rfl rfl hr
theorem r_extract {x : Operand} {i : Nat} {vs : List V} {v : V} (hg : guardOf n ops ⟨some d, .extract x i, ty, pos, after, g⟩ ⟨s, m⟩ = some true) (hx : ev n s x = .tp vs) (hv : vs[i]? = some v) {fp : List Nat} (hfp : fpOf (idOf ⟨some d, .extract x i, ty, pos, after, g⟩) (ev n s) (.extract x i) = fp) (hr : Run P n ops K r ((ix, ⟨some d, .extract x i, ty, pos, after, g⟩, ⟨v, [], fp⟩) :: acc) ⟨upd s d v, m⟩) :
    Run P n ops K ((⟨some d, .extract x i, ty, pos, after, g⟩, ix) :: r) acc ⟨s, m⟩ := r_any (v := v) (u := []) hg (by simp only [aeff, hx, hv]) hfp rfl rfl hr
theorem r_nilCheck {x : Operand} {k off : Nat} (hg : guardOf n ops ⟨some d, .nilCheck x, ty, pos, after, g⟩ ⟨s, m⟩ = some true) (hx : ev n s x = .rf k off) {fp : List Nat} (hfp : fpOf (idOf ⟨some d, .nilCheck x, ty, pos, after, g⟩) (ev n s) (.nilCheck x) = fp) (hr : Run P n ops K r ((ix, ⟨some d, .nilCheck x, ty, pos, after, g⟩, ⟨.rf k off, [], fp⟩) :: acc) ⟨upd s d (.rf k off), m⟩) :
    Run P n ops K ((⟨some d, .nilCheck x, ty, pos, after, g⟩, ix) :: r) acc ⟨s, m⟩ := r_any (v := .rf k off) (u := []) hg (by simp only [aeff, hx]) hfp rfl rfl hr
theorem r_int {src dst : TypeId} {x : Operand} {k k1 k2 : IntKind} {j : Int} (hg : guardOf n ops ⟨some d, .convert src dst x, ty, pos, after, g⟩ ⟨s, m⟩ = some true) (h1 : P.underlying src = some (.int k1)) (h2 : P.underlying dst = some (.int k2)) (hx : ev n s x = .t (.sc (.int k j))) {j' : Int} (hj : k2.wrap j = j') {fp : List Nat} (hfp : fpOf (idOf ⟨some d, .convert src dst x, ty, pos, after, g⟩) (ev n s) (.convert src dst x) = fp) (hr : Run P n ops K r ((ix, ⟨some d, .convert src dst x, ty, pos, after, g⟩, ⟨(.t (.sc (.int k2 j'))), [], fp⟩) :: acc) ⟨upd s d (.t (.sc (.int k2 j'))), m⟩) :
    Run P n ops K ((⟨some d, .convert src dst x, ty, pos, after, g⟩, ix) :: r) acc ⟨s, m⟩ := by
  subst hj; exact r_any (v := .t (.sc (.int k2 (k2.wrap j)))) (u := []) hg (by simp only [aeff, aconvert, hx, h1, h2]) hfp rfl rfl hr
theorem r_append {t e : TypeId} {by' sz k : Nat} {x y : Operand} {v : V} {es fs : List (List T)} {md : Bool} (hg : guardOf n ops ⟨some d, .call { callee := .builtin .append, args := #[x, y], argTypes := #[t, t] }, ty, pos, after, g⟩ ⟨s, m⟩ = some true) (ha : apOf P t = some (e, by', sz)) (hx : ev n s x = .ar k) (hy : ev n s y = v) (hv : toT m v = some (.sl fs))
    (hfs : fs.all (fun r => decide (r.length = sz)) = true) (h1 : isNo (m d) = true) (h2 : isNo (m (d + 1000)) = true) (h3 : d ∉ fz v) (h4 : d + 1000 ∉ fz v) {u : List (Nat × Ob)} (hu : fzU m (fz v) = u) {m1 : Nat → Ob} (hm1 : app m u = m1) (hm : m1 k = .arr es e md) (hb : (es.length + fs.length) * by' ≤ 140737488355328) {es' : List (List T)} (hes : es ++ fs = es') {o' : Ob} (ho : (bif md then .dead else .ro es) = o')
    {fp : List Nat} (hfp : fpOf (idOf ⟨some d, .call { callee := .builtin .append, args := #[x, y], argTypes := #[t, t] }, ty, pos, after, g⟩) (ev n s) (.call { callee := .builtin .append, args := #[x, y], argTypes := #[t, t] }) = fp) (hr : Run P n ops K r ((ix, ⟨some d, .call { callee := .builtin .append, args := #[x, y], argTypes := #[t, t] }, ty, pos, after, g⟩, ⟨.ar d, u ++ [(k, o'), (d, .arr es' e md)], fp⟩) :: acc) ⟨upd s d (.ar d), upd (upd m1 k o') d (.arr es' e md)⟩) :
    Run P n ops K ((⟨some d, .call { callee := .builtin .append, args := #[x, y], argTypes := #[t, t] }, ty, pos, after, g⟩, ix) :: r) acc ⟨s, m⟩ := by
  subst hu; subst hm1; subst hes; subst ho
  cases md
  · exact r_any (v := .ar d) (u := fzU m (fz v) ++ [(k, .ro es), (d, .arr (es ++ fs) e false)]) hg (by simp only [aeff, acall, aappend, ha, hx, hy, hv, hfs, idOf, Option.getD_some, h1, h2, h3, h4, hm, hb, not_false_eq_true, and_self, if_true]; rfl) hfp rfl (by rw [app_append]; rfl) hr
  · exact r_any (v := .ar d) (u := fzU m (fz v) ++ [(k, .dead), (d, .arr (es ++ fs) e true)]) hg (by simp only [aeff, acall, aappend, ha, hx, hy, hv, hfs, idOf, Option.getD_some, h1, h2, h3, h4, hm, hb, not_false_eq_true, and_self, if_true]) hfp rfl (by rw [app_append]; rfl) hr
theorem r_appendNil {t e : TypeId} {by' sz : Nat} {x y : Operand} {v : V} {fs : List (List T)} (hg : guardOf n ops ⟨some d, .call { callee := .builtin .append, args := #[x, y], argTypes := #[t, t] }, ty, pos, after, g⟩ ⟨s, m⟩ = some true) (ha : apOf P t = some (e, by', sz)) (hx : ev n s x = .nl) (hy : ev n s y = v) (hv : toT m v = some (.sl fs))
    (hfs : fs.all (fun r => decide (r.length = sz)) = true) (h1 : isNo (m d) = true) (h2 : isNo (m (d + 1000)) = true) (h3 : d ∉ fz v) (h4 : d + 1000 ∉ fz v) {u : List (Nat × Ob)} (hu : fzU m (fz v) = u) {m1 : Nat → Ob} (hm1 : app m u = m1) (hb : fs.length * by' ≤ 140737488355328)
    {fp : List Nat} (hfp : fpOf (idOf ⟨some d, .call { callee := .builtin .append, args := #[x, y], argTypes := #[t, t] }, ty, pos, after, g⟩) (ev n s) (.call { callee := .builtin .append, args := #[x, y], argTypes := #[t, t] }) = fp) (hr : Run P n ops K r ((ix, ⟨some d, .call { callee := .builtin .append, args := #[x, y], argTypes := #[t, t] }, ty, pos, after, g⟩, ⟨.ar d, u ++ [(d + 1000, .dead), (d, .arr fs e true)], fp⟩) :: acc) ⟨upd s d (.ar d), upd (upd m1 (d + 1000) .dead) d (.arr fs e true)⟩) :
    Run P n ops K ((⟨some d, .call { callee := .builtin .append, args := #[x, y], argTypes := #[t, t] }, ty, pos, after, g⟩, ix) :: r) acc ⟨s, m⟩ := by
  subst hu; subst hm1
  refine r_any (v := .ar d) hg (u := fzU m (fz v) ++ [(d + 1000, .dead), (d, .arr fs e true)]) (by
    simp only [aeff, acall, aappend, ha, hx, hy, hv, hfs, idOf, Option.getD_some, h1, h2, h3, h4, hb, not_false_eq_true, and_self, if_true]) hfp rfl (by rw [app_append]; rfl) hr
theorem r_make {t e : TypeId} {by' sz : Nat} {x y : Operand} {k k' : IntKind} {j : Int} {zt : List T} (hg : guardOf n ops ⟨some d, .makeSlice t x y, ty, pos, after, g⟩ ⟨s, m⟩ = some true) (ha : apOf P t = some (e, by', sz)) (hz : zrow P e = some zt) (hzl : zt.length = sz) (hx : ev n s x = .t (.sc (.int k j))) (hy : ev n s y = .t (.sc (.int k' j))) (h0 : 0 ≤ j) (hb : j.toNat * by' ≤ 140737488355328) (h1 : isNo (m d) = true)
    {fp : List Nat} (hfp : fpOf (idOf ⟨some d, .makeSlice t x y, ty, pos, after, g⟩) (ev n s) (.makeSlice t x y) = fp) (hr : Run P n ops K r ((ix, ⟨some d, .makeSlice t x y, ty, pos, after, g⟩, ⟨.ar d, [(d, .arr (List.replicate j.toNat zt) e true)], fp⟩) :: acc) ⟨upd s d (.ar d), upd m d (.arr (List.replicate j.toNat zt) e true)⟩) : Run P n ops K ((⟨some d, .makeSlice t x y, ty, pos, after, g⟩, ix) :: r) acc ⟨s, m⟩ :=
  r_any (v := .ar d) (u := [(d, .arr (List.replicate j.toNat zt) e true)]) hg (by simp only [aeff, amake, hx, hy, ha, hz, hzl, h0, hb, idOf, Option.getD_some, h1, and_self, if_true]) hfp rfl rfl hr
theorem r_build {t : TypeId} {parts : Array (Nat × Operand)} {zs us : List V} {pl : List (Nat × Nat)} {ps : List (Nat × V)} (hg : guardOf n ops ⟨some d, .build t parts, ty, pos, after, g⟩ ⟨s, m⟩ = some true) (hz : zcells P t = some zs) (hpl : placesOf P t = some pl) (hp : parts.toList.map (fun p => (p.1, ev n s p.2)) = ps) (hf : afill (pl[·]?) zs ps = some us)
    {fp : List Nat} (hfp : fpOf (idOf ⟨some d, .build t parts, ty, pos, after, g⟩) (ev n s) (.build t parts) = fp) (hr : Run P n ops K r ((ix, ⟨some d, .build t parts, ty, pos, after, g⟩, ⟨.ag us, [], fp⟩) :: acc) ⟨upd s d (.ag us), m⟩) : Run P n ops K ((⟨some d, .build t parts, ty, pos, after, g⟩, ix) :: r) acc ⟨s, m⟩ := by
  subst hp; exact r_any (v := .ag us) (u := []) hg (by simp only [aeff, hz, hpl, hf]) hfp rfl rfl hr
theorem r_buildSlice {t e : TypeId} {by' sz k : Nat} {parts : Array (Nat × Operand)} {zt : List T} {ps : List (Nat × V)} {fs : List (List T)} {ids : List Nat} (hg : guardOf n ops ⟨some d, .buildSlice t k parts, ty, pos, after, g⟩ ⟨s, m⟩ = some true) (ha : apOf P t = some (e, by', sz)) (hz : zrow P e = some zt) (hzl : zt.length = sz) (hk : k * sz ≤ 16777216) (h1 : isNo (m d) = true)
    (hp : parts.toList.map (fun p => (p.1, ev n s p.2)) = ps) (hids : ps.flatMap (fun p => (vcells p.2).flatMap fz) = ids) (hd : d ∉ ids) (hf : arows m sz (List.replicate k zt) ps = some fs) {u : List (Nat × Ob)} (hu : fzU m ids = u) {m1 : Nat → Ob} (hm1 : app m u = m1)
    {fp : List Nat} (hfp : fpOf (idOf ⟨some d, .buildSlice t k parts, ty, pos, after, g⟩) (ev n s) (.buildSlice t k parts) = fp) (hr : Run P n ops K r ((ix, ⟨some d, .buildSlice t k parts, ty, pos, after, g⟩, ⟨.ar d, u ++ [(d, .arr fs e true)], fp⟩) :: acc) ⟨upd s d (.ar d), upd m1 d (.arr fs e true)⟩) : Run P n ops K ((⟨some d, .buildSlice t k parts, ty, pos, after, g⟩, ix) :: r) acc ⟨s, m⟩ := by
  subst hp; subst hu; subst hm1; subst hids
  exact r_any (v := .ar d) hg (u := fzU m _ ++ [(d, .arr fs e true)]) (by simp only [aeff, abuildSlice, ha, hz, hzl, hk, idOf, Option.getD_some, h1, hd, hf, not_false_eq_true, and_self, if_true]) hfp rfl (by rw [app_append]; rfl) hr
theorem r_func {f : FuncId} {caps : Array Operand} {vs : List V} (hg : guardOf n ops ⟨some d, .makeFunc (.func f) #[] caps, ty, pos, after, g⟩ ⟨s, m⟩ = some true) (hc : caps.toList.map (ev n s) = vs) {fp : List Nat} (hfp : fpOf (idOf ⟨some d, .makeFunc (.func f) #[] caps, ty, pos, after, g⟩) (ev n s) (.makeFunc (.func f) #[] caps) = fp) (hr : Run P n ops K r ((ix, ⟨some d, .makeFunc (.func f) #[] caps, ty, pos, after, g⟩, ⟨.fn f vs, [], fp⟩) :: acc) ⟨upd s d (.fn f vs), m⟩) : Run P n ops K ((⟨some d, .makeFunc (.func f) #[] caps, ty, pos, after, g⟩, ix) :: r) acc ⟨s, m⟩ := by
  subst hc; exact r_any (v := .fn f (caps.toList.map (ev n s))) (u := []) hg (by simp only [aeff, List.size_toArray, List.length_nil, if_true]) hfp rfl rfl hr
theorem r_pure {op : Op} {c : Call} {fop : Operand} {f : FuncId} {caps : List V} {cargs avs : List V} {rv : V} {m1 : Nat → Ob} (ks : List Nat) (hg : guardOf n ops ⟨some d, op, ty, pos, after, g⟩ ⟨s, m⟩ = some true) (ho : op = .call c) (hc : c.callee = .value fop) (hf : ev n s fop = .fn f caps) (hav : c.args.toList.map (ev n s) ++ caps = avs) {u : List (Nat × Ob)} (hu : fzU m ks = u) (hm1 : app m u = m1) (hAC : AC P f cargs noOb rv noOb)
    (hp : PassL m1 (fun k => k) ks noOb avs cargs) {fp : List Nat} (hfp : fpOf 0 (ev n s) op ++ ks = fp) (hr : Run P n ops K r ((ix, ⟨some d, op, ty, pos, after, g⟩, ⟨rv, u, fp⟩) :: acc) ⟨upd s d rv, m1⟩) : Run P n ops K ((⟨some d, op, ty, pos, after, g⟩, ix) :: r) acc ⟨s, m⟩ := by
  subst hav; subst hu; subst hm1; subst hfp
  exact run_pure hg ks ho hc hf hAC hp hr
theorem k_nil {K' : St → Prop} (h : K' ⟨s, m⟩) : Run P n ops (fun _ st => K' st) [] acc ⟨s, m⟩ := h
theorem k_nilD {K' : St → Prop} {b : Array Nat} (hf : freeB ops b acc.reverse = true) (h : K' ⟨s, m⟩) : Run P n ops (fun acc st => freeB ops b acc.reverse = true ∧ K' st) [] acc ⟨s, m⟩ := ⟨hf, h⟩
variable {Q : Exit → St → Prop} {y : Code} {st : St} {id id' : Nat}
theorem k_seq (h : AWP P C n y Q st) : Thn P C n y Q .normal st := h
theorem k_seq_exit (h : Q (.exit id) st) : Thn P C n y Q (.exit id) st := h
theorem k_seq_ret (h : Q .ret st) : Thn P C n y Q .ret st := h
theorem k_blk (h : Q .normal st) : InB id Q .normal st := h
theorem k_blk_ret (h : Q .ret st) : InB id Q .ret st := h
theorem k_blk_exit (h : Q .normal st) : InB id Q (.exit id) st := by simp only [InB, if_true]; exact h
theorem k_blk_pass (hne : id' ≠ id) (h : Q (.exit id') st) : InB id Q (.exit id') st := by simp only [InB, if_neg hne]; exact h
section
variable {α : Type} {μ : α → Nat} {sl : α → List (Nat × V)} {ob : α → List (Nat × Ob)} {Inv : α → Prop} {a : α}
theorem k_for (a' : α) (h1 : Inv a') (h2 : μ a' < μ a) (h3 : Weak P C n st ⟨slots (sl a'), objs (ob a')⟩) : NxtF P C n μ sl ob Inv a Q .normal st := ⟨a', h1, h2, h3⟩
end
theorem k_fin {fn : Func} {rs : List V} {os' : Nat → Ob} (h : Ends P n fn rs os' st) : Fin P n fn rs os' .ret st := h
theorem k_fin_end {fn : Func} {rs : List V} {os' : Nat → Ob} (h : Ends P n fn rs os' st) : Fin P n fn rs os' .normal st := h
end
end Go.Abs
end
section
namespace Go.Abs
abbrev vi (n : Int) : V := .t (.sc (.int .i64 n))
abbrev vb (b : Bool) : V := .t (.sc (.bool b))
abbrev ti (n : Int) : T := .sc (.int .i64 n)
abbrev tstr (s : ByteArray) : T := .sc (.str s)
abbrev ints64 (l : List Int) : T := .sl (l.map fun n => [ti n])
def S.wt : S → Nat
  | .str b => b.size
  | .int _ _ => 0
  | .bool _ => 0
  | .nip => 0
  | .nii => 0
  | .nif => 0
  | .nim => 0
  | .nis _ => 0
  | .gp _ => 0
def S.ok : S → Prop
  | .str b => b.size ≤ 2 ^ 63 - 1
  | .int k n => (Lit.int k n).wf = true
  | .bool _ => True
  | .nip => True
  | .nii => True
  | .nif => True
  | .nim => True
  | .nis _ => True
  | .gp _ => True
mutual
def T.wt : T → Nat
  | .sc s => s.wt
  | .sl es => es.length + T.wtR es
  | .ow _ es => es.length + T.wtR es
  | .any => 0
def T.wtL : List T → Nat
  | [] => 0
  | t :: ts => t.wt + T.wtL ts
def T.wtR : List (List T) → Nat
  | [] => 0
  | r :: rs => T.wtL r + T.wtR rs
end
mutual
def T.ok : T → Prop
  | .sc s => s.ok
  | .sl es => es.length ≤ 2 ^ 63 - 1 ∧ T.okR es
  | .ow _ _ => False
  | .any => False
def T.okL : List T → Prop
  | [] => True
  | t :: ts => t.ok ∧ T.okL ts
def T.okR : List (List T) → Prop
  | [] => True
  | r :: rs => T.okL r ∧ T.okR rs
end
theorem T.okR_mem : ∀ {l : List (List T)} {r : List T}, T.okR l → r ∈ l → T.okL r
  | x :: xs, r, h, hm => by
    rw [T.okR] at h
    rcases List.mem_cons.1 hm with rfl | hm
    · exact h.1
    · exact T.okR_mem h.2 hm
theorem T.wtR_append (a b : List (List T)) : T.wtR (a ++ b) = T.wtR a + T.wtR b := by
  induction a with
  | nil => simp [T.wtR]
  | cons x a ih => simp [T.wtR, ih]; omega
theorem T.wtR_succ {α : Type} (row : α → List T) (l : List α) (j : Nat) (h : j < l.length) : T.wtR ((l.take (j + 1)).map row) = T.wtR ((l.take j).map row) + T.wtL (row l[j]) := by
  rw [List.take_succ_eq_append_getElem h, List.map_append, T.wtR_append]; simp [T.wtR]
theorem T.wtR_le {α : Type} (row : α → List T) (l : List α) (j : Nat) : T.wtR ((l.take j).map row) ≤ T.wtR (l.map row) := by
  have := T.wtR_append ((l.take j).map row) ((l.drop j).map row)
  rw [← List.map_append, List.take_append_drop] at this; omega
theorem T.wtR_ints (l : List Int) : T.wtR (l.map fun n => [ti n]) = 0 := by
  induction l with
  | nil => rfl
  | cons x l ih => simp [T.wtR, T.wtL, T.wt, S.wt, ih]
def szr (w : Nat) (left : Int) : Int := if (w : Int) ≤ left then left - w else -1
theorem szr_pos {w : Nat} {left : Int} (h : (w : Int) ≤ left) : szr w left = left - w := if_pos h
theorem szr_neg {w : Nat} {left : Int} (h : left < (w : Int)) : szr w left = -1 := if_neg (by omega)
theorem map_get {α : Type} (row : α → List T) (l : List α) (j : Nat) (h : j < l.length) : (l.map row)[((j : Int)).toNat]? = some (row l[j]) := by simp [h]
def mid {α : Type} (row : α → List T) (z : List T) (l : List α) (j : Nat) : List (List T) := (l.take j).map row ++ List.replicate (l.length - j) z
theorem mid_len {α : Type} (row : α → List T) (z : List T) (l : List α) (j : Nat) (h : j ≤ l.length) : (mid row z l j).length = l.length := by simp [mid]; omega
theorem mid_zero {α : Type} (row : α → List T) (z : List T) (l : List α) : mid row z l 0 = List.replicate l.length z := by simp [mid]
theorem mid_all {α : Type} (row : α → List T) (z : List T) (l : List α) : mid row z l l.length = l.map row := by simp [mid]
theorem mid_lt {α : Type} (row : α → List T) (z : List T) (l : List α) (j : Nat) (h : j < l.length) : (((j : Int)).toNat < (mid row z l j).length) = True := by rw [mid_len _ _ _ _ (by omega)]; simp [h]
theorem mid_get {α : Type} (row : α → List T) (z : List T) (l : List α) (j : Nat) (h : j < l.length) : (mid row z l j)[((j : Int)).toNat]? = some z := by
  have h1 : ((l.take j).map row).length = j := by simp; omega
  rw [Int.toNat_natCast, mid, List.getElem?_append_right (by omega), h1, Nat.sub_self, List.getElem?_replicate, if_pos (by omega)]
theorem mid_set {α : Type} (row : α → List T) (z : List T) (l : List α) (j : Nat) (h : j < l.length) : (mid row z l j).set ((j : Int)).toNat (row l[j]) = mid row z l (j + 1) := by
  have h1 : ((l.take j).map row).length = j := by simp; omega
  rw [Int.toNat_natCast, mid, List.set_append, if_neg (by rw [h1]; omega), h1, Nat.sub_self, mid, List.take_succ_eq_append_getElem h]
  rw [show l.length - j = (l.length - (j + 1)) + 1 by omega, List.replicate_succ, List.set_cons_zero, List.map_append, List.append_assoc]
  rfl
inductive Form where
  | mk (kind : Int) (name : ByteArray) (n : Int) (scopes : List Int) (kids : List Form)
def Form.kind : Form → Int | .mk kind _ _ _ _ => kind
def Form.name : Form → ByteArray | .mk _ name _ _ _ => name
def Form.n : Form → Int | .mk _ _ n _ _ => n
def Form.scopes : Form → List Int | .mk _ _ _ scopes _ => scopes
def Form.kids : Form → List Form | .mk _ _ _ _ kids => kids
mutual
def Form.row : Form → List T
  | .mk kind name n scopes kids => [ti kind] ++ [tstr name] ++ [ti n] ++ [ints64 scopes] ++ [.sl (Form.rows kids)]
def Form.rows : List Form → List (List T)
  | [] => []
  | x :: xs => x.row :: Form.rows xs
end
theorem Form.rows_eq : ∀ (l : List Form), Form.rows l = l.map Form.row
  | [] => rfl
  | x :: xs => by rw [Form.rows, Form.rows_eq xs, List.map_cons]
theorem Form.row_mk (kind : Int) (name : ByteArray) (n : Int) (scopes : List Int) (kids : List Form) : Form.row (Form.mk kind name n scopes kids) = [ti kind, tstr name, ti n, ints64 scopes, .sl (kids.map Form.row)] := by simp only [Form.row, Form.rows_eq, List.nil_append, List.cons_append]
theorem Form.row_len (x : Form) : x.row.length = 5 := by obtain ⟨kind, name, n, scopes, kids⟩ := x; rw [Form.row_mk]; rfl
theorem Form.take (x : Form) : (x.row.map V.t).take 5 = x.row.map V.t := take_all (by simp [Form.row_len])
inductive Step where
  | mk (id : Int) (rule : Int) (scope : Int) (use : Form) (result : Form)
def Step.id : Step → Int | .mk id _ _ _ _ => id
def Step.rule : Step → Int | .mk _ rule _ _ _ => rule
def Step.scope : Step → Int | .mk _ _ scope _ _ => scope
def Step.use : Step → Form | .mk _ _ _ use _ => use
def Step.result : Step → Form | .mk _ _ _ _ result => result
def Step.row : Step → List T
  | .mk id rule scope use result => [ti id] ++ [ti rule] ++ [ti scope] ++ use.row ++ result.row
theorem Step.row_mk (id : Int) (rule : Int) (scope : Int) (use_kind : Int) (use_name : ByteArray) (use_n : Int) (use_scopes : List Int) (use_kids : List Form) (result_kind : Int) (result_name : ByteArray) (result_n : Int) (result_scopes : List Int) (result_kids : List Form) : Step.row (Step.mk id rule scope (Form.mk use_kind use_name use_n use_scopes use_kids) (Form.mk result_kind result_name result_n result_scopes result_kids)) = [ti id, ti rule, ti scope, ti use_kind, tstr use_name, ti use_n, ints64 use_scopes, .sl (use_kids.map Form.row), ti result_kind, tstr result_name, ti result_n, ints64 result_scopes, .sl (result_kids.map Form.row)] := by simp only [Step.row, Form.row_mk, Form.row_mk, List.nil_append, List.cons_append]
theorem Step.row_len (x : Step) : x.row.length = 13 := by obtain ⟨id, rule, scope, ⟨use_kind, use_name, use_n, use_scopes, use_kids⟩, ⟨result_kind, result_name, result_n, result_scopes, result_kids⟩⟩ := x; rw [Step.row_mk]; rfl
theorem Step.take (x : Step) : (x.row.map V.t).take 13 = x.row.map V.t := take_all (by simp [Step.row_len])
inductive Core where
  | mk (kind : Int) (id : Int) (name : ByteArray) (n : Int) (ids : List Int) (data : Form) (kids : List Core)
def Core.kind : Core → Int | .mk kind _ _ _ _ _ _ => kind
def Core.id : Core → Int | .mk _ id _ _ _ _ _ => id
def Core.name : Core → ByteArray | .mk _ _ name _ _ _ _ => name
def Core.n : Core → Int | .mk _ _ _ n _ _ _ => n
def Core.ids : Core → List Int | .mk _ _ _ _ ids _ _ => ids
def Core.data : Core → Form | .mk _ _ _ _ _ data _ => data
def Core.kids : Core → List Core | .mk _ _ _ _ _ _ kids => kids
mutual
def Core.row : Core → List T
  | .mk kind id name n ids data kids => [ti kind] ++ [ti id] ++ [tstr name] ++ [ti n] ++ [ints64 ids] ++ data.row ++ [.sl (Core.rows kids)]
def Core.rows : List Core → List (List T)
  | [] => []
  | x :: xs => x.row :: Core.rows xs
end
theorem Core.rows_eq : ∀ (l : List Core), Core.rows l = l.map Core.row
  | [] => rfl
  | x :: xs => by rw [Core.rows, Core.rows_eq xs, List.map_cons]
theorem Core.row_mk (kind : Int) (id : Int) (name : ByteArray) (n : Int) (ids : List Int) (data_kind : Int) (data_name : ByteArray) (data_n : Int) (data_scopes : List Int) (data_kids : List Form) (kids : List Core) : Core.row (Core.mk kind id name n ids (Form.mk data_kind data_name data_n data_scopes data_kids) kids) = [ti kind, ti id, tstr name, ti n, ints64 ids, ti data_kind, tstr data_name, ti data_n, ints64 data_scopes, .sl (data_kids.map Form.row), .sl (kids.map Core.row)] := by simp only [Core.row, Core.rows_eq, Form.row_mk, List.nil_append, List.cons_append]
theorem Core.row_len (x : Core) : x.row.length = 11 := by obtain ⟨kind, id, name, n, ids, ⟨data_kind, data_name, data_n, data_scopes, data_kids⟩, kids⟩ := x; rw [Core.row_mk]; rfl
theorem Core.take (x : Core) : (x.row.map V.t).take 11 = x.row.map V.t := take_all (by simp [Core.row_len])
inductive Bind where
  | mk (name : ByteArray) (scopes : List Int) (id : Int)
def Bind.name : Bind → ByteArray | .mk name _ _ => name
def Bind.scopes : Bind → List Int | .mk _ scopes _ => scopes
def Bind.id : Bind → Int | .mk _ _ id => id
def Bind.row : Bind → List T
  | .mk name scopes id => [tstr name] ++ [ints64 scopes] ++ [ti id]
theorem Bind.row_mk (name : ByteArray) (scopes : List Int) (id : Int) : Bind.row (Bind.mk name scopes id) = [tstr name, ints64 scopes, ti id] := by simp only [Bind.row, List.nil_append, List.cons_append]
theorem Bind.row_len (x : Bind) : x.row.length = 3 := by obtain ⟨name, scopes, id⟩ := x; rw [Bind.row_mk]; rfl
theorem Bind.take (x : Bind) : (x.row.map V.t).take 3 = x.row.map V.t := take_all (by simp [Bind.row_len])
inductive Hit where
  | mk (name : Form) (depth : Int) (one : Form) (many : List Hit)
def Hit.name : Hit → Form | .mk name _ _ _ => name
def Hit.depth : Hit → Int | .mk _ depth _ _ => depth
def Hit.one : Hit → Form | .mk _ _ one _ => one
def Hit.many : Hit → List Hit | .mk _ _ _ many => many
mutual
def Hit.row : Hit → List T
  | .mk name depth one many => name.row ++ [ti depth] ++ one.row ++ [.sl (Hit.rows many)]
def Hit.rows : List Hit → List (List T)
  | [] => []
  | x :: xs => x.row :: Hit.rows xs
end
theorem Hit.rows_eq : ∀ (l : List Hit), Hit.rows l = l.map Hit.row
  | [] => rfl
  | x :: xs => by rw [Hit.rows, Hit.rows_eq xs, List.map_cons]
theorem Hit.row_mk (name_kind : Int) (name_name : ByteArray) (name_n : Int) (name_scopes : List Int) (name_kids : List Form) (depth : Int) (one_kind : Int) (one_name : ByteArray) (one_n : Int) (one_scopes : List Int) (one_kids : List Form) (many : List Hit) : Hit.row (Hit.mk (Form.mk name_kind name_name name_n name_scopes name_kids) depth (Form.mk one_kind one_name one_n one_scopes one_kids) many) = [ti name_kind, tstr name_name, ti name_n, ints64 name_scopes, .sl (name_kids.map Form.row), ti depth, ti one_kind, tstr one_name, ti one_n, ints64 one_scopes, .sl (one_kids.map Form.row), .sl (many.map Hit.row)] := by simp only [Hit.row, Hit.rows_eq, Form.row_mk, Form.row_mk, List.nil_append, List.cons_append]
theorem Hit.row_len (x : Hit) : x.row.length = 12 := by obtain ⟨⟨name_kind, name_name, name_n, name_scopes, name_kids⟩, depth, ⟨one_kind, one_name, one_n, one_scopes, one_kids⟩, many⟩ := x; rw [Hit.row_mk]; rfl
theorem Hit.take (x : Hit) : (x.row.map V.t).take 12 = x.row.map V.t := take_all (by simp [Hit.row_len])
inductive Rule where
  | mk (pattern : Form) (template : Form)
def Rule.pattern : Rule → Form | .mk pattern _ => pattern
def Rule.template : Rule → Form | .mk _ template => template
def Rule.row : Rule → List T
  | .mk pattern template => pattern.row ++ template.row
theorem Rule.row_mk (pattern_kind : Int) (pattern_name : ByteArray) (pattern_n : Int) (pattern_scopes : List Int) (pattern_kids : List Form) (template_kind : Int) (template_name : ByteArray) (template_n : Int) (template_scopes : List Int) (template_kids : List Form) : Rule.row (Rule.mk (Form.mk pattern_kind pattern_name pattern_n pattern_scopes pattern_kids) (Form.mk template_kind template_name template_n template_scopes template_kids)) = [ti pattern_kind, tstr pattern_name, ti pattern_n, ints64 pattern_scopes, .sl (pattern_kids.map Form.row), ti template_kind, tstr template_name, ti template_n, ints64 template_scopes, .sl (template_kids.map Form.row)] := by simp only [Rule.row, Form.row_mk, Form.row_mk, List.nil_append, List.cons_append]
theorem Rule.row_len (x : Rule) : x.row.length = 10 := by obtain ⟨⟨pattern_kind, pattern_name, pattern_n, pattern_scopes, pattern_kids⟩, ⟨template_kind, template_name, template_n, template_scopes, template_kids⟩⟩ := x; rw [Rule.row_mk]; rfl
theorem Rule.take (x : Rule) : (x.row.map V.t).take 10 = x.row.map V.t := take_all (by simp [Rule.row_len])
inductive Macro where
  | mk (id : Int) (literals : List Form) (rules : List Rule)
def Macro.id : Macro → Int | .mk id _ _ => id
def Macro.literals : Macro → List Form | .mk _ literals _ => literals
def Macro.rules : Macro → List Rule | .mk _ _ rules => rules
def Macro.row : Macro → List T
  | .mk id literals rules => [ti id] ++ [.sl (literals.map Form.row)] ++ [.sl (rules.map Rule.row)]
theorem Macro.row_mk (id : Int) (literals : List Form) (rules : List Rule) : Macro.row (Macro.mk id literals rules) = [ti id, .sl (literals.map Form.row), .sl (rules.map Rule.row)] := by simp only [Macro.row, List.nil_append, List.cons_append]
theorem Macro.row_len (x : Macro) : x.row.length = 3 := by obtain ⟨id, literals, rules⟩ := x; rw [Macro.row_mk]; rfl
theorem Macro.take (x : Macro) : (x.row.map V.t).take 3 = x.row.map V.t := take_all (by simp [Macro.row_len])
inductive Expansion where
  | mk (binds : List Bind) (macros : List Macro) (scope : Int) (id : Int) (steps : Int)
def Expansion.binds : Expansion → List Bind | .mk binds _ _ _ _ => binds
def Expansion.macros : Expansion → List Macro | .mk _ macros _ _ _ => macros
def Expansion.scope : Expansion → Int | .mk _ _ scope _ _ => scope
def Expansion.id : Expansion → Int | .mk _ _ _ id _ => id
def Expansion.steps : Expansion → Int | .mk _ _ _ _ steps => steps
def Expansion.row : Expansion → List T
  | .mk binds macros scope id steps => [.sl (binds.map Bind.row)] ++ [.sl (macros.map Macro.row)] ++ [ti scope] ++ [ti id] ++ [ti steps]
theorem Expansion.row_mk (binds : List Bind) (macros : List Macro) (scope : Int) (id : Int) (steps : Int) : Expansion.row (Expansion.mk binds macros scope id steps) = [.sl (binds.map Bind.row), .sl (macros.map Macro.row), ti scope, ti id, ti steps] := by simp only [Expansion.row, List.nil_append, List.cons_append]
theorem Expansion.row_len (x : Expansion) : x.row.length = 5 := by obtain ⟨binds, macros, scope, id, steps⟩ := x; rw [Expansion.row_mk]; rfl
theorem Expansion.take (x : Expansion) : (x.row.map V.t).take 5 = x.row.map V.t := take_all (by simp [Expansion.row_len])
end Go.Abs
end
