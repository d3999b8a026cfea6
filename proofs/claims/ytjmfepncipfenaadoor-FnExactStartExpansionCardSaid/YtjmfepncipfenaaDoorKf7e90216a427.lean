/- A part of the proof: what the functions that the law calls answer, as pure values. -/
import Derived.KernelRfl
import Derived.Test.YtjmfepncipfenaaDoorK4555911bcfba
set_option linter.unusedSimpArgs false
set_option linter.unusedVariables false
section
set_option linter.unusedSimpArgs false
set_option linter.unusedVariables false
namespace Go.Abs
section
variable {P : Program} {n : Nat}
theorem AC_i {f : FuncId} {fn : Func} {c : Code} {N : Nat} (rs : List V) (hf : P.funcs[f]? = some fn) (hb : fn.body = some c) (hn : fn.ntmps = N) {args : List V} {os os' : Nat → Ob}
    (h : ∀ C : Cx, (∀ k, C.X0 k ≠ none → os k ≠ .no) → AWP P C N c (Fin P N fn rs os') ⟨fun t => args.getD t .jk, os⟩)
    (hname : (fn.name == "runtime.NumGoroutine") = false := by kernel_rfl) (hlen : args.length ≤ N := by simp) (hkeep : ∀ k, os k ≠ .no → os' k ≠ .no := by first | (simp [noOb]; done) | exact keep_all rfl) : AC P f args os (one1 rs) os' := by
  subst hn
  exact AC_intro hf hb hname hlen hkeep h
theorem ends_a {fn : Func} {rr : Array ResultVar} {rs vs : List V} {s' : Nat → V} {m' m1 : Nat → Ob} {u : List (Nat × Ob)} (L' : List (Nat × Ob)) (ks : List Nat) (hrr : fn.results = rr)
    (h1 : resOf P n ⟨s', m'⟩ rr.toList = some vs := by first | exact (res_tmp (by conv => lhs; whnf) res_nil) | exact (res_tmp (by conv => lhs; whnf) (res_tmp (by conv => lhs; whnf) res_nil)) | exact (res_tmp (by conv => lhs; whnf) (res_tmp (by conv => lhs; whnf) (res_tmp (by conv => lhs; whnf) res_nil))) | exact (res_tmp (by conv => lhs; whnf) (res_tmp (by conv => lhs; whnf) (res_tmp (by conv => lhs; whnf) (res_tmp (by conv => lhs; whnf) res_nil)))) | exact (res_tmp (by conv => lhs; whnf) (res_tmp (by conv => lhs; whnf) (res_tmp (by conv => lhs; whnf) (res_tmp (by conv => lhs; whnf) (res_tmp (by conv => lhs; whnf) res_nil))))) | exact res_nil)
    (hu : fzU m' ks = u := by repeat (first | exact fzU_nil | (apply fzU_cons; focus ((conv => lhs; whnf); done)) | (apply fzU_skip; focus ((conv => lhs; whnf); done))))
    (hm1 : app m' u = m1 := by simp only [app]; rfl)
    (h2 : GiveL m1 ks vs rs := by repeat (first | exact giveL_nil | refine giveL_cons (by first | exact .inl rfl | exact give_T rfl rfl | exact give_Ts rfl rfl rfl) ?_))
    (ho : HasO m1 L' := by repeat (first | exact hasO_nil | refine hasO_cons (by conv => lhs; whnf) (by rfl) ?_))
    (hi : L'.all (fun p => p.2.ids.all (fun j => (L'.map (·.1)).elem j)) = true := by rfl)
    (hr : (V.idsL rs).all (fun k => (L'.map (·.1)).elem k) = true := by rfl) : Ends P n fn rs (objs L') ⟨s', m'⟩ := by
  subst hrr
  exact ends_gen L' ks h1 hu hm1 h2 ho hi hr
end
section
variable {P : Program} {C : Cx} {n : Nat} {Q : Exit → St → Prop} {s : Nat → V} {m : Nat → Ob}
theorem awp_fr {β : Type} {c : Code} (asg och gar : List Nat) (sl : Nat × β → List (Nat × V)) (ob : Nat × β → List (Nat × Ob)) (Inv : Nat × β → Prop) (a0 : Nat × β) (h0 : Inv a0)
    (round : ∀ a, Inv a → AWP P C n c (Round2 asg och gar [] (fun a => a.1) sl ob Inv s m a Q) ⟨frame asg (slots (sl a)) s, frame och (objs (ob a)) m⟩)
    (hga : gar.all (fun k => isNo (m k)) = true := by rfl) (hdis : och.all (fun k => !gar.elem k) = true := by rfl) (hoc : ∀ a, (ob a).map (·.1) = och := by intro _; rfl)
    (hs : HasF s (sl a0) := by repeat (first | exact hasF_nil | refine hasF_cons (by conv => lhs; whnf) (by rfl) ?_)) (ho : HasO m (ob a0) := by repeat (first | exact hasO_nil | refine hasO_cons (by conv => lhs; whnf) (by rfl) ?_)) : AWP P C n (.loop c) Q ⟨s, m⟩ :=
  awp_frame2 asg och gar [] (fun a => a.1) sl ob Inv a0 h0 hga hdis hoc hs ho (fun _ h => by cases h) freshS_nil freshM_nil round
theorem awp_jn {α : Type} {x y : Code} (asg och gar : List Nat) (sl : α → List (Nat × V)) (ob : α → List (Nat × Ob)) (Inv : α → Prop)
    (hA : AWP P C n x (JoinP asg och gar [] sl ob Inv s m Q) ⟨s, m⟩) (hJ : ∀ a, Inv a → AWP P C n y Q ⟨frame asg (slots (sl a)) s, frame och (objs (ob a)) m⟩)
    (hga : gar.all (fun k => isNo (m k)) = true := by rfl) (hoc : ∀ a, (ob a).map (·.1) = och := by intro _; rfl) : AWP P C n (.seq x y) Q ⟨s, m⟩ :=
  awp_seqJ asg och gar [] sl ob Inv hga hoc (fun _ h => by cases h) freshS_nil freshM_nil hA hJ
section
variable {α : Type} {asg och gar N : List Nat} {s0 : Nat → V} {m0 : Nat → Ob}
theorem s_jn {sl : α → List (Nat × V)} {ob : α → List (Nat × Ob)} {Inv : α → Prop} (a' : α) (h1 : Inv a') (h5 : HasR s och gar (qOf []) (sl a') := by repeat (first | exact trivial | refine hasR_cons (by conv => lhs; whnf) (by rfl) rfl ?_)) (h6 : HasQ m och gar (qOf []) (ob a') := by repeat (first | exact trivial | refine hasQ_cons (by conv => lhs; whnf) (by rfl) rfl ?_))
    (h3 : Off asg s s0 := by repeat (first | exact off_frame _ _ _ | exact off_refl _ _ | refine off_upd rfl ?_ | refine off_sub rfl ?_ | refine off_same rfl ?_)) (h4 : Off (och ++ gar) m m0 := by repeat (first | exact off_frame _ _ _ | exact off_refl _ _ | refine off_upd rfl ?_ | refine off_sub rfl ?_ | refine off_same rfl ?_)) (hR : okR2 [] och gar N = true := by decide) : JoinP asg och gar N sl ob Inv s0 m0 Q .normal ⟨s, m⟩ :=
  s_join a' [] h1 h5 h6 h3 h4 hR
theorem s_rn {sl : Nat × α → List (Nat × V)} {ob : Nat × α → List (Nat × Ob)} {Inv : Nat × α → Prop} {b : α} {fu : Nat} (a' : Nat × α) (h1 : Inv a') (R : List (Nat × Nat) := []) (h5 : HasR s och gar (qOf R) (sl a') := by repeat (first | exact trivial | refine hasR_cons (by conv => lhs; whnf) (by rfl) rfl ?_)) (h6 : HasQ m och gar (qOf R) (ob a') := by repeat (first | exact trivial | refine hasQ_cons (by conv => lhs; whnf) (by rfl) rfl ?_))
    (h2 : a'.1 < fu + 1 := by first | exact Nat.lt_succ_self _ | (dsimp only; omega))
    (h3 : Off asg s s0 := by repeat (first | exact off_frame _ _ _ | exact off_refl _ _ | refine off_upd rfl ?_ | refine off_sub rfl ?_ | refine off_same rfl ?_)) (h4 : Off (och ++ gar) m m0 := by repeat (first | exact off_frame _ _ _ | exact off_refl _ _ | refine off_upd rfl ?_ | refine off_sub rfl ?_ | refine off_same rfl ?_)) (hR : okR2 R och gar N = true := by decide) : Round2 asg och gar N (fun a => a.1) sl ob Inv s0 m0 (fu + 1, b) Q .normal ⟨s, m⟩ :=
  s_rnd2 a' R h1 h5 h6 h2 h3 h4 hR
end
end
end Go.Abs
end
section
set_option linter.unusedSimpArgs false
set_option linter.unusedVariables false
namespace Go.Abs
section
variable {P : Program} {C : Cx} {n : Nat} {s : Nat → V} {m : Nat → Ob} {w : World} {G : Im} {X : Xm}
def Thw (P : Program) (C : Cx) (n : Nat) (Q : Exit → St → Prop) (e : Exit) (st : St) : Prop := ∃ st', Weak P C n st st' ∧ Q e st'
variable {Q : Exit → St → Prop} {c : Code} {e0 : Exit}
theorem thw_id {st : St} (h : Q e0 st) : Thw P C n Q e0 st := ⟨st, Weak.refl st, h⟩
theorem awp_thw {st : St} (h : AWP P C n c (Thw P C n Q) st) : AWP P C n c Q st := fun a w hR => wp_mono (h a w hR) (by
  rintro e a' w' ⟨st', ⟨s2, h1, h2⟩, hR'⟩
  exact ⟨s2, h2, h1 a' w' hR'⟩)
end
end Go.Abs
end
section
set_option linter.unusedSimpArgs false
set_option linter.unusedVariables false
namespace Go.Abs
section
variable {P : Program} {C : Cx} {n : Nat} {s : Nat → V} {m : Nat → Ob} {w : World} {G : Im} {X : Xm}
theorem weak_toDar {k : Nat} {es : List (List T)} {e : TypeId} (hm : m k = .arr es e true) : Weak P C n ⟨s, m⟩ ⟨s, upd m k (.dar es e)⟩ := by
  rintro x w ⟨G, X, hM, hd, hsz, ht⟩
  exact ⟨G, X, Mem.toDar hM hm, hd, hsz, ht⟩
theorem awp_toDar {c : Code} {Q : Exit → St → Prop} (k : Nat) {es : List (List T)} {e : TypeId} (hm : m k = .arr es e true) (h : AWP P C n c Q ⟨s, upd m k (.dar es e)⟩) : AWP P C n c Q ⟨s, m⟩ := awp_weak (weak_toDar hm) h
theorem weak_fzDar {k : Nat} {es fs : List (List T)} {e : TypeId} (hm : m k = .dar es e) (hb : (es.all fun r => r.all T.fzB) = true) (hf : es.map (·.map T.fzT) = fs) : Weak P C n ⟨s, m⟩ ⟨s, upd m k (.arr fs e true)⟩ := by
  rintro x w ⟨G, X, hM, hd, hsz, ht⟩
  replace hM : Mem P C m w G X := hM
  obtain ⟨G', hG, hM'⟩ := hM.fzDar hm hb
  rw [hf] at hM'
  exact ⟨G', X, hM', hd, hsz, fun t htn => V.Is.mono hG (Xle.refl X) _ _ (ht t htn)⟩
theorem awp_fzDar {c : Code} {Q : Exit → St → Prop} (k : Nat) {es : List (List T)} {e : TypeId} (fs : List (List T)) (hm : m k = .dar es e) (hb : (es.all fun r => r.all T.fzB) = true) (hf : es.map (·.map T.fzT) = fs) (h : AWP P C n c Q ⟨s, upd m k (.arr fs e true)⟩) : AWP P C n c Q ⟨s, m⟩ := awp_weak (weak_fzDar hm hb hf) h
theorem awp_toD {α : Type} {c : Code} {Q : Exit → St → Prop} (k : Nat) (row : α → List T) {es : List (List T)} {e : TypeId} (hm : m k = .arr es e true) (he : es = []) (h : AWP P C n c Q ⟨s, upd m k (.dar (([] : List α).map row) e)⟩) : AWP P C n c Q ⟨s, m⟩ := by
  subst he; exact awp_toDar k hm h
theorem awp_fzD {α : Type} {c : Code} {Q : Exit → St → Prop} (k : Nat) (row rowO : α → List T) (h1 : ∀ y, (rowO y).all T.fzB = true) (h2 : ∀ y, (rowO y).map T.fzT = row y) {l : List α} {e : TypeId} (hm : m k = .dar (l.map rowO) e) (h : AWP P C n c Q ⟨s, upd m k (.arr (l.map row) e true)⟩) : AWP P C n c Q ⟨s, m⟩ :=
  awp_fzDar k (l.map row) hm (by simp only [List.all_map, List.all_eq_true]; intro y _; exact h1 y) (by rw [List.map_map]; exact List.map_congr_left fun y _ => h2 y) h
theorem awp_jnD {α β : Type} {c : Code} {Q : Exit → St → Prop} (q k sz : Nat) (row : α → List T) (rowL : β → List T) {l : List α} {y : α} (y2 : α) (l2 : List β) {j : Int} {off : Nat} {e e2 : TypeId} (hix : idx l j = some y) (hrow2 : row y2 = (row y).set off (.ow e2 (l2.map rowL)))
    (h : AWP P C n c Q ⟨s, upd (upd m k .dead) q (.dar ((l.set j.toNat y2).map row) e)⟩) (hm : m q = .dah ((l.map row).set j.toNat ((row y).set off .any)) e [(j.toNat, off, k)] := by conv => lhs; whnf) (hd : m k = .arr (l2.map rowL) e2 true := by conv => lhs; whnf) (hl : (row y).length = sz := by rfl) (hlt : off < sz := by decide) : AWP P C n c Q ⟨s, m⟩ := by
  have h0 := idx_some hix
  have e1 : ((l.map row).set j.toNat ((row y).set off .any))[j.toNat]? = some ((row y).set off .any) := by rw [List.getElem?_set_self]; simp only [List.length_map]; omega
  have e5 : ((row y).set off .any)[off]? = some T.any := by rw [List.getElem?_set_self]; omega
  have e3 : ((l.map row).set j.toNat ((row y).set off .any)).set j.toNat (((row y).set off .any).set off (.ow e2 (l2.map rowL))) = (l.set j.toNat y2).map row := by rw [List.set_set, List.set_set, ← hrow2, List.map_set]
  refine awp_weak ?_ h
  rintro x w ⟨G, X, hM, hd', hsz, ht⟩
  replace hM : Mem P C m w G X := hM
  have := Mem.joinDah hM hm hd e1 e5
  rw [e3] at this
  exact ⟨G, X, this, hd', hsz, ht⟩
theorem vle_set {us : List V} {off e : Nat} (h : us[off]? = some .nl) : VLe (.ag us) (.ag (us.set off (.t (.sc (.nis e))))) := by
  intro G X x hx
  rw [V.Is] at hx ⊢
  obtain ⟨xs, rfl, hl⟩ := hx
  refine ⟨xs, rfl, V.IsL.of_get (by rw [List.length_set]; exact hl.length) fun j v hv => ?_⟩
  rw [List.getElem?_set] at hv
  split at hv
  · rename_i hj
    subst hj
    split at hv
    · cases hv
      obtain ⟨x, hx, hi⟩ := hl.get off _ h
      refine ⟨x, hx, ?_⟩
      rw [V.Is] at hi; rw [V.Is, T.Is]; exact hi
    · cases hv
  · exact hl.get j v hv
theorem plain_map {β : Type} {rowL : β → List T} (h : ∀ y, (rowL y).all T.plain = true) {l : List β} : plainR (l.map rowL) = true := by
  unfold plainR; simp only [List.all_map, List.all_eq_true]; intro y _; exact h y
end
def Hit.rowO (e : Nat) (x : Hit) : List T := [.sc (.int .i64 (x.name.kind)), .sc (.str (x.name.name)), .sc (.int .i64 (x.name.n)), .sl ((x.name.scopes).map rI), .sl ((x.name.kids).map Form.row), .sc (.int .i64 (x.depth)), .sc (.int .i64 (x.one.kind)), .sc (.str (x.one.name)), .sc (.int .i64 (x.one.n)), .sl ((x.one.scopes).map rI), .sl ((x.one.kids).map Form.row), .ow e (x.many.map Hit.row)]
def Hit.rowN (e : Nat) (x : Hit) : List T := [.sc (.int .i64 (x.name.kind)), .sc (.str (x.name.name)), .sc (.int .i64 (x.name.n)), .sl ((x.name.scopes).map rI), .sl ((x.name.kids).map Form.row), .sc (.int .i64 (x.depth)), .sc (.int .i64 (x.one.kind)), .sc (.str (x.one.name)), .sc (.int .i64 (x.one.n)), .sl ((x.one.scopes).map rI), .sl ((x.one.kids).map Form.row), .sc (.nis e)]
theorem Hit.row_plain (x : Hit) : x.row.all T.plain = true := by rw [Hit.row_eq]; rfl
theorem Hit.rowO_fzB (e : Nat) (x : Hit) : (x.rowO e).all T.fzB = true := by
  simp only [Hit.rowO, List.all_cons, List.all_nil, T.fzB, Bool.true_and, Bool.and_true]; exact plain_map Hit.row_plain
theorem Hit.rowO_fzT (e : Nat) (x : Hit) : (x.rowO e).map T.fzT = x.row := by rw [Hit.row_eq]; rfl
theorem Hit.rowN_nis {P : Program} {e sz : Nat} (h : szOf P e = some sz) (x : Hit) : (x.rowN e).all (T.nisB P) = true := by
  simp only [Hit.rowN, List.all_cons, List.all_nil, T.nisB, h, Option.isSome_some, Bool.and_self]
section
variable {P : Program} {C : Cx} {n : Nat} {ops : Array Oper} {K : List (Nat × Oper × Ev) → St → Prop} {r : List (Oper × Nat)} {acc : List (Nat × Oper × Ev)} {ix : Nat} {s : Nat → V} {m : Nat → Ob} {d : Tmp} {ty : TypeId} {pos : String} {after : Array Edge} {g : Option (Nat × Bool)}
theorem r_anyW {op : Op} {dst : Option Tmp} {v0 v : V} {u : List (Nat × Ob)} {s' : Nat → V} {m' : Nat → Ob} {fp : List Nat} (hg : guardOf n ops ⟨dst, op, ty, pos, after, g⟩ ⟨s, m⟩ = some true) (h : aeff P (idOf ⟨dst, op, ty, pos, after, g⟩) (ev n s) m op = some (v0, u)) (hle : VLe v0 v) (hfp : fpOf (idOf ⟨dst, op, ty, pos, after, g⟩) (ev n s) op = fp)
    (hs : putS s dst v = s') (hm : app m u = m') (hr : Run P n ops K r ((ix, ⟨dst, op, ty, pos, after, g⟩, ⟨v, u, fp⟩) :: acc) ⟨s', m'⟩) : Run P n ops K ((⟨dst, op, ty, pos, after, g⟩, ix) :: r) acc ⟨s, m⟩ := by
  subst hs; subst hm; subst hfp; exact run_opW hg h hle (by cases dst <;> exact hr)
theorem s_lenD {α : Type} {l : List α} {row : α → List T} {t e e' : TypeId} {q : Nat} {x : Operand} {fp : List Nat} (ht : P.underlying t = some (.slice e)) (hr : Run P n ops K r ((ix, ⟨some d, .call { callee := .builtin .len, args := #[x], argTypes := #[t] }, ty, pos, after, g⟩, ⟨.t (.sc (.int .i64 (l.length : Nat))), [], fp⟩) :: acc) ⟨upd s d (.t (.sc (.int .i64 (l.length : Nat)))), m⟩) (hg : guardOf n ops ⟨some d, .call { callee := .builtin .len, args := #[x], argTypes := #[t] }, ty, pos, after, g⟩ ⟨s, m⟩ = some true := by rfl) (hx : ev n s x = .ar q := by conv => lhs; whnf) (hm : m q = .dar (l.map row) e' := by conv => lhs; whnf) (hfp : fpOf (idOf ⟨some d, .call { callee := .builtin .len, args := #[x], argTypes := #[t] }, ty, pos, after, g⟩) (ev n s) (.call { callee := .builtin .len, args := #[x], argTypes := #[t] }) = fp := by rfl) : Run P n ops K ((⟨some d, .call { callee := .builtin .len, args := #[x], argTypes := #[t] }, ty, pos, after, g⟩, ix) :: r) acc ⟨s, m⟩ := r_len hg ht hx (by simp only [lenV, hm, List.length_map]) hfp hr
theorem s_ixD {α : Type} {l : List α} {y : α} {t : TypeId} {x i : Operand} {e e' : TypeId} {sz q : Nat} {k : IntKind} {j : Int} {fp : List Nat} (row : α → List T) (hix : idx l j = some y) (he : elOf P t = some (e, sz)) (hr : Run P n ops K r ((ix, ⟨some d, .indexAddr t x i, ty, pos, after, g⟩, ⟨.re q j.toNat sz 0, [], fp⟩) :: acc) ⟨upd s d (.re q j.toNat sz 0), m⟩) (hg : guardOf n ops ⟨some d, .indexAddr t x i, ty, pos, after, g⟩ ⟨s, m⟩ = some true := by rfl) (hx : ev n s x = .ar q := by conv => lhs; whnf) (hm : m q = .dar (l.map row) e' := by conv => lhs; whnf) (hi : ev n s i = .t (.sc (.int k j)) := by conv => lhs; whnf) (hfp : fpOf (idOf ⟨some d, .indexAddr t x i, ty, pos, after, g⟩) (ev n s) (.indexAddr t x i) = fp := by rfl) : Run P n ops K ((⟨some d, .indexAddr t x i, ty, pos, after, g⟩, ix) :: r) acc ⟨s, m⟩ := r_indexAddr hg he hx hi (idx_some hix).1 (by have := idx_some hix; simp only [indexP, hm, List.length_map]; rw [if_pos (by omega)]) hfp hr
theorem s_ldD {α β : Type} {l : List α} {y : α} {t e e2 : TypeId} {x : Operand} {q sz off : Nat} {j : Int} {fp : List Nat} (row : α → List T) (rowL : β → List T) (l2 : List β) (hpl : ∀ y, (rowL y).all T.plain = true) (hix : idx l j = some y) (ha : aggOf P t = some false) (he : szOf P e = some sz) (hr : Run P n ops K r ((ix, ⟨some d, .load t x, ty, pos, after, g⟩, ⟨.ar d, [(q, .dar ((l.map row).set j.toNat ((row y).set off .any)) e), (d, .arr (l2.map rowL) e2 true)], fp⟩) :: acc) ⟨upd s d (.ar d), upd (upd m q (.dar ((l.map row).set j.toNat ((row y).set off .any)) e)) d (.arr (l2.map rowL) e2 true)⟩) (hg : guardOf n ops ⟨some d, .load t x, ty, pos, after, g⟩ ⟨s, m⟩ = some true := by rfl) (hx : ev n s x = .re q j.toNat sz off := by conv => lhs; whnf) (hm : m q = .dar (l.map row) e := by conv => lhs; whnf) (hw : (row y)[off]? = some (.ow e2 (l2.map rowL)) := by rfl) (h1 : isNo (m d) = true := by rfl) (hfp : fpOf (idOf ⟨some d, .load t x, ty, pos, after, g⟩) (ev n s) (.load t x) = fp := by rfl) : Run P n ops K ((⟨some d, .load t x, ty, pos, after, g⟩, ix) :: r) acc ⟨s, m⟩ := by
  refine r_any (v := .ar d) (u := [(q, .dar ((l.map row).set j.toNat ((row y).set off .any)) e), (d, .arr (l2.map rowL) e2 true)]) hg ?_ hfp rfl rfl hr
  have hc : cellsAt m (.re q j.toNat sz off) = none := by simp only [cellsAt, hm]
  simp only [aeff, hx, hc, aown, hm, idx_row row hix, hw, plain_map hpl, he, ha, idOf, Option.getD_some, h1, and_self, if_true]
theorem s_stD {α : Type} {l : List α} {y : α} {t e : TypeId} {p x : Operand} {q k sz off : Nat} {j : Int} (row : α → List T) (hix : idx l j = some y) (hs : szOf P t = some 1) (he : szOf P e = some sz) (hr : Run P n ops K r ((ix, ⟨none, .store t p x, ty, pos, after, g⟩, ⟨.jk, [(q, .dah ((l.map row).set j.toNat ((row y).set off .any)) e [(j.toNat, off, k)])], [q]⟩) :: acc) ⟨s, upd m q (.dah ((l.map row).set j.toNat ((row y).set off .any)) e [(j.toNat, off, k)])⟩) (hg : guardOf n ops ⟨none, .store t p x, ty, pos, after, g⟩ ⟨s, m⟩ = some true := by rfl)
    (hp : ev n s p = .re q j.toNat sz off := by conv => lhs; whnf) (hm : m q = .dar ((l.map row).set j.toNat ((row y).set off .any)) e := by conv => lhs; whnf) (hx : ev n s x = .ar k := by conv => lhs; whnf) (hl : (row y).length = sz := by rfl) (hlt : off < sz := by decide) : Run P n ops K ((⟨none, .store t p x, ty, pos, after, g⟩, ix) :: r) acc ⟨s, m⟩ := by
  have h0 := idx_some hix
  have e1 : ((l.map row).set j.toNat ((row y).set off .any))[j.toNat]? = some ((row y).set off .any) := by rw [List.getElem?_set_self]; simp only [List.length_map]; omega
  have e5 : ((row y).set off .any)[off]? = some T.any := by rw [List.getElem?_set_self]; omega
  exact run_stO hg rfl hp hx hm e1 e5 he hs hr
theorem s_apD {α : Type} {l l2 : List α} {t e : TypeId} {by' sz k : Nat} {x y : Operand} {v : V} {u : List (Nat × Ob)} {m1 : Nat → Ob} {fp : List Nat} (row rowN : α → List T) (hN : ∀ y, (rowN y).all (T.nisB P) = true) (hrow : ∀ y, (rowN y).length = sz) (hO : (l2.map rowN).map (·.map T.nisO) = l2.map row) (hb : decide ((l.length + l2.length) * by' ≤ 140737488355328) = true) (ha : apOf P t = some (e, by', sz)) (hr : Run P n ops K r ((ix, ⟨some d, .call { callee := .builtin .append, args := #[x, y], argTypes := #[t, t] }, ty, pos, after, g⟩, ⟨.ar d, u ++ [(k, .dead), (d, .dar ((l ++ l2).map row) e)], fp⟩) :: acc) ⟨upd s d (.ar d), upd (upd m1 k .dead) d (.dar ((l ++ l2).map row) e)⟩) (hg : guardOf n ops ⟨some d, .call { callee := .builtin .append, args := #[x, y], argTypes := #[t, t] }, ty, pos, after, g⟩ ⟨s, m⟩ = some true := by rfl) (hx : ev n s x = .ar k := by conv => lhs; whnf) (hy : ev n s y = v := by conv => lhs; whnf) (hv : toT m v = some (.sl (l2.map rowN)) := by first | (conv => lhs; whnf) | rfl) (h1 : isNo (m d) = true := by rfl) (h2 : isNo (m (d + 1000)) = true := by rfl) (h3 : d ∉ fz v := by simp [fz]) (h4 : d + 1000 ∉ fz v := by simp [fz]) (hu : fzU m (fz v) = u := by repeat (first | exact fzU_nil | (apply fzU_cons; focus ((conv => lhs; whnf); done)) | (apply fzU_skip; focus ((conv => lhs; whnf); done)))) (hm1 : app m u = m1 := by simp only [app]; rfl) (hm : m1 k = .dar (l.map row) e := by conv => lhs; whnf) (hfp : fpOf (idOf ⟨some d, .call { callee := .builtin .append, args := #[x, y], argTypes := #[t, t] }, ty, pos, after, g⟩) (ev n s) (.call { callee := .builtin .append, args := #[x, y], argTypes := #[t, t] }) = fp := by rfl) : Run P n ops K ((⟨some d, .call { callee := .builtin .append, args := #[x, y], argTypes := #[t, t] }, ty, pos, after, g⟩, ix) :: r) acc ⟨s, m⟩ := by
  subst hu; subst hm1
  refine r_any (v := .ar d) (u := fzU m (fz v) ++ [(k, .dead), (d, .dar ((l ++ l2).map row) e)]) hg ?_ hfp rfl (by rw [app_append]; rfl) hr
  have hn : ((l2.map rowN).all fun r => r.all (T.nisB P)) = true := by simp only [List.all_map, List.all_eq_true]; intro y _; exact hN y
  have hb2 : (l.length + l2.length) * by' ≤ 140737488355328 := of_decide_eq_true hb
  simp only [aeff, acall, aappend, ha, hx, hy, hv, all_len hrow, idOf, Option.getD_some, h1, h2, h3, h4, hm, hn, hO, List.length_map, hb2, not_false_eq_true, and_self, if_true, ← List.map_append]
theorem s_bldN {t : TypeId} {parts : Array (Nat × Operand)} {zs us vs : List V} {pl : List (Nat × Nat)} {ps : List (Nat × V)} {fp : List Nat} (off e : Nat) (hz : zcells P t = some zs) (hpl : placesOf P t = some pl) (hr : Run P n ops K r ((ix, ⟨some d, .build t parts, ty, pos, after, g⟩, ⟨.ag vs, [], fp⟩) :: acc) ⟨upd s d (.ag vs), m⟩) (hg : guardOf n ops ⟨some d, .build t parts, ty, pos, after, g⟩ ⟨s, m⟩ = some true := by rfl) (hp : parts.toList.map (fun p => (p.1, ev n s p.2)) = ps := by simp only [ev_tmp, ev_const, ev_func, upd_at, slots_cons, slots_nil, objs_cons, objs_nil, Nat.reduceLT, Nat.reduceEqDiff, Nat.reduceAdd, reduceIte, if_true, if_false, ofVal, ofS, noOb, reduceCtorEq, frame_at, List.elem_cons, List.elem_nil, Nat.reduceBEq, cond_true, cond_false, beq_self_eq_true, List.take_succ_cons, List.take_zero, List.drop_succ_cons, List.drop_zero, List.take_nil, List.drop_nil, List.nil_append, List.cons_append, List.append_nil, List.length_cons, List.length_nil, List.head?_cons, List.map_cons, List.map_nil, Nat.reduceAdd, Nat.zero_add, List.length_map, List.toList_toArray]; rfl) (hf : afill (pl[·]?) zs ps = some us := by simp only [afill, boxable, V.one, vcells, splice, List.take_succ_cons, List.take_zero, List.drop_succ_cons, List.drop_zero, List.take_nil, List.drop_nil, List.nil_append, List.cons_append, List.append_nil, List.length_cons, List.length_nil, List.head?_cons, List.map_cons, List.map_nil, Nat.reduceAdd, Nat.zero_add, List.length_map, List.getElem?_cons_zero, List.getElem?_cons_succ, and_self, if_true, reduceIte, Nat.reduceLeDiff, true_and, and_true, Nat.le_refl]; rfl) (hnl : us[off]? = some .nl := by rfl) (hvs : us.set off (.t (.sc (.nis e))) = vs := by simp only [List.set_cons_succ, List.set_cons_zero]; rfl) (hfp : fpOf (idOf ⟨some d, .build t parts, ty, pos, after, g⟩) (ev n s) (.build t parts) = fp := by rfl) : Run P n ops K ((⟨some d, .build t parts, ty, pos, after, g⟩, ix) :: r) acc ⟨s, m⟩ := by
  subst hp; subst hvs
  exact r_anyW (v0 := .ag us) (u := []) hg (by simp only [aeff, hz, hpl, hf]) (vle_set hnl) hfp rfl rfl hr
end
end Go.Abs
end
section
set_option linter.unusedSimpArgs false
set_option linter.unusedVariables false
namespace Go.Abs
section
variable {P : Program} {C : Cx} {n : Nat} {s : Nat → V} {m : Nat → Ob} {w : World} {G : Im} {X : Xm}
theorem awp_nlB {c : Code} {Q : Exit → St → Prop} {cs : List V} (k i : Nat) (ds : List V) (hm : m k = .box cs) (hi : cs[i]? = some .nl) (hd : cs.set i (.t (.sl [])) = ds) (h : AWP P C n c Q ⟨s, upd m k (.box ds)⟩) : AWP P C n c Q ⟨s, m⟩ := by
  subst hd
  refine awp_weak ?_ h
  rintro x w ⟨G, X, hM, hd', hsz, ht⟩
  replace hM : Mem P C m w G X := hM
  refine ⟨G, X, Mem.less2 hM k _ (fun y hy hok => ?_) ⟨fun h => by simp at h, fun h => by rw [hm] at h; cases h⟩, hd', hsz, ht⟩
  rw [hm] at hok ⊢
  obtain ⟨b, cur, e, rfl, hw, hl, hn⟩ := hok
  refine ⟨⟨b, cur, e, rfl, hw, V.IsL.of_get (by rw [List.length_set]; exact hl.length) fun j v hv => ?_, hn⟩, fun _ hb => hb⟩
  rw [List.getElem?_set] at hv
  split at hv
  · rename_i hj
    subst hj
    split at hv
    · cases hv
      obtain ⟨z, hz, hi'⟩ := hl.get i _ hi
      refine ⟨z, hz, ?_⟩
      rw [V.Is] at hi'; subst hi'
      rw [V.Is, T.Is]
      exact ⟨none, 0, 0, rfl, Nat.le_refl _, Nat.zero_le _, .inl rfl⟩
    · cases hv
  · exact hl.get j v hv
theorem awp_pzB {c : Code} {Q : Exit → St → Prop} {cs : List V} {es : List (List T)} {e : TypeId} (k i q : Nat) (ds : List V) (hm : m k = .box cs) (hi : cs[i]? = some (.ar q)) (hq : m q = .arr es e false) (hd : cs.set i (.t (.sl es)) = ds) (h : AWP P C n c Q ⟨s, upd m k (.box ds)⟩) : AWP P C n c Q ⟨s, m⟩ := by
  subst hd
  refine awp_weak ?_ h
  rintro x w ⟨G, X, hM, hd', hsz, ht⟩
  replace hM : Mem P C m w G X := hM
  refine ⟨G, X, Mem.less2 hM k _ (fun y hy hok => ?_) ⟨fun h => by simp at h, fun h => by rw [hm] at h; cases h⟩, hd', hsz, ht⟩
  rw [hm] at hok ⊢
  obtain ⟨b, cur, e, rfl, hw, hl, hn⟩ := hok
  refine ⟨⟨b, cur, e, rfl, hw, V.IsL.of_get (by rw [List.length_set]; exact hl.length) fun j v hv => ?_, hn⟩, fun _ hb => hb⟩
  rw [List.getElem?_set] at hv
  split at hv
  · rename_i hj
    subst hj
    split at hv
    · cases hv
      obtain ⟨z, hz, hi'⟩ := hl.get i _ hi
      refine ⟨z, hz, ?_⟩
      rw [V.Is] at hi'
      have ho := hM.ob q z hi'
      rw [hq] at ho
      rw [V.Is]
      exact ho.is
    · cases hv
  · exact hl.get j v hv
end
end Go.Abs
end
section
set_option linter.unusedVariables false
set_option linter.unusedSimpArgs false
namespace Go.Abs
section
variable {P : Program} {C : Cx} {m : Nat → Ob} {w : World} {G : Im} {X : Xm}
theorem Mem.rewriteW (h : Mem P C m w G X) {k : Nat} {x : Value} (hx : X k = some x) {w' : World} (o : Ob) (hos : w'.os = w.os) (htape : w'.tape = w.tape) (hout : w'.output = w.output) (hsize : w.heap.size ≤ w'.heap.size)
    (hblk : ∀ b, b < w.heap.size → ¬ (m k).has w x b → w'.heap[b]? = w.heap[b]?) (hG : ∀ b, (m k).has w x b → G b = none) (hno : o ≠ .no)
    (hbl : ∀ b, o.has w' x b → (m k).has w x b) (hok : Ob.Ok P G X w' o x) : Mem P C (upd m k o) w' G X := by
  have hh : ∀ k1 y b, k1 ≠ k → X k1 = some y → (m k1).has w' y b → (m k1).has w y b := fun k1 y b hk hy hb =>
    (Ob.has_congr (fun b2 hb2 => hblk b2 (h.blk_lt hy hb2) (fun hb3 => hk (h.apart k1 k y x b2 hy hx hb2 hb3))) (h.ob k1 y hy) b).1 hb
  have f : ∀ k1 y1 b', X k1 = some y1 → (upd m k o k1).has w' y1 b' → (m k1).has w y1 b' := fun k1 y1 b' h1 hb1 => by
    by_cases e1 : k1 = k
    · subst e1; rw [upd_same] at hb1; rw [hx] at h1; cases h1; exact hbl b' hb1
    · rw [upd_ne _ _ _ e1] at hb1; exact hh k1 y1 b' e1 h1 hb1
  refine ⟨h.gle, h.gold, ?_, ⟨hos.trans h.keeps.os, htape.trans h.keeps.tape, hout.trans h.keeps.output, Nat.le_trans h.keeps.size hsize, ?_⟩, ?_, ?_, ?_, ?_, h.cell, h.old⟩
  · intro b cs hb
    obtain ⟨cur, e, fr, hw, hr⟩ := h.gok b cs hb
    exact ⟨cur, e, fr, by rw [hblk b (h.gok.lt hb) (fun hb2 => by rw [hG b hb2] at hb; cases hb)]; exact hw, hr⟩
  · intro b hb hnb
    rw [hblk b (by have := h.keeps.size; omega) (fun hb' => ?_)]
    · exact h.keeps.block b hb hnb
    · rcases h.mine k x b hx hb' with h3 | h3
      · exact hnb h3
      · omega
  · intro k' y hy
    by_cases hk : k' = k
    · subst hk; rw [upd_same]; rw [hx] at hy; cases hy; exact hok
    · rw [upd_ne _ _ _ hk]
      exact (h.ob k' y hy).mono (Gle.refl G) (Xle.refl X) (fun _ _ => rfl) (fun b' hb' => hblk b' (h.blk_lt hy hb') (fun hb2 => hk (h.apart k' k y x b' hy hx hb' hb2)))
  · intro k'
    by_cases hk : k' = k
    · subst hk; rw [upd_same, hx]; simp [hno]
    · rw [upd_ne _ _ _ hk]; exact h.free k'
  · intro k1 k2 y1 y2 b' h1 h2 hb1 hb2
    exact h.apart _ _ _ _ _ h1 h2 (f _ _ _ h1 hb1) (f _ _ _ h2 hb2)
  · intro k1 y b' h1 hb1
    exact h.mine k1 y b' h1 (f _ _ _ h1 hb1)
theorem Mem.renew (h : Mem P C m w G X) {k id : Nat} {x x' : Value} (hx : X k = some x) (hid : m id = .no) {w' : World} (o : Ob) (hos : w'.os = w.os) (htape : w'.tape = w.tape) (hout : w'.output = w.output) (hsize : w.heap.size ≤ w'.heap.size)
    (hblk : ∀ b, b < w.heap.size → ¬ (m k).has w x b → w'.heap[b]? = w.heap[b]?) (hG : ∀ b, (m k).has w x b → G b = none) (hno : o ≠ .no)
    (hbl : ∀ b, o.has w' x' b → (m k).has w x b ∨ w.heap.size ≤ b) (hok : Ob.Ok P G (upd X id (some x')) w' o x') (hone : x'.oneCell' = true) :
    Mem P C (upd (upd m k .dead) id o) w' G (upd X id (some x')) ∧ Xle X (upd X id (some x')) := by
  have hXid : X id = none := (h.free id).2 hid
  have h1 : Mem P C (upd m k .dead) w' G X := h.rewriteW hx .dead hos htape hout hsize hblk hG (by simp) (fun b hb => (Ob.has_dead hb).elim) trivial
  have hkid : id ≠ k := by rintro rfl; rw [hx] at hXid; cases hXid
  have hnew : ∀ k1 y b, X k1 = some y → (upd m k .dead k1).has w' y b → o.has w' x' b → False := by
    intro k1 y b hy hb1 hb2
    by_cases e1 : k1 = k
    · subst e1; rw [upd_same] at hb1; exact Ob.has_dead hb1
    · rw [upd_ne _ _ _ e1] at hb1
      have hb3 : (m k1).has w y b := (Ob.has_congr (fun b2 hb2 => hblk b2 (h.blk_lt hy hb2) (fun hb3 => e1 (h.apart k1 k y x b2 hy hx hb2 hb3))) (h.ob k1 y hy) b).1 hb1
      rcases hbl b hb2 with h2 | h2
      · exact e1 (h.apart k1 k y x b hy hx hb3 h2)
      · have := h.blk_lt hy hb3; omega
  refine ⟨⟨h1.gle, h1.gold, h1.gok, h1.keeps, ?_, ?_, ?_, ?_, ?_, fun k y hk => Xle_upd hXid k y (h1.old k y hk)⟩, Xle_upd hXid⟩
  · intro k' y hy
    by_cases e1 : k' = id
    · subst e1; rw [upd_same] at hy ⊢; cases hy; exact hok
    · rw [upd_ne _ _ _ e1] at hy ⊢
      exact (h1.ob k' y hy).mono (Gle.refl G) (Xle_upd hXid) (fun _ _ => rfl) (fun _ _ => rfl)
  · intro k'
    by_cases e1 : k' = id
    · subst e1; rw [upd_same, upd_same]; simp [hno]
    · rw [upd_ne _ _ _ e1, upd_ne _ _ _ e1]; exact h1.free k'
  · intro k1 k2 y1 y2 b h2 h3 hb1 hb2
    by_cases e1 : k1 = id <;> by_cases e2 : k2 = id
    · rw [e1, e2]
    · subst e1; rw [upd_same] at h2 hb1; cases h2
      rw [upd_ne _ _ _ e2] at h3 hb2
      exact (hnew k2 y2 b h3 hb2 hb1).elim
    · subst e2; rw [upd_same] at h3 hb2; cases h3
      rw [upd_ne _ _ _ e1] at h2 hb1
      exact (hnew k1 y1 b h2 hb1 hb2).elim
    · rw [upd_ne _ _ _ e1] at h2 hb1; rw [upd_ne _ _ _ e2] at h3 hb2
      exact h1.apart k1 k2 y1 y2 b h2 h3 hb1 hb2
  · intro k1 y1 b h2 hb1
    by_cases e1 : k1 = id
    · subst e1; rw [upd_same] at h2 hb1; cases h2
      rcases hbl b hb1 with h3 | h3
      · exact h.mine k x b hx h3
      · exact .inr (by have := h.keeps.size; omega)
    · rw [upd_ne _ _ _ e1] at h2 hb1
      exact h1.mine k1 y1 b h2 hb1
  · intro k1 y1 h2
    by_cases e1 : k1 = id
    · subst e1; rw [upd_same] at h2; cases h2; exact hone
    · rw [upd_ne _ _ _ e1] at h2; exact h1.cell k1 y1 h2
end
end Go.Abs
end
