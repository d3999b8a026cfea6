/- A part of the proof: what the functions that the law calls answer, as pure values. -/
import Derived.KernelRfl
import Derived.Test.YtcebadpiebamdaaGreatK14cf3363e1c2
set_option linter.unusedSimpArgs false
set_option linter.unusedVariables false
section
set_option linter.unusedSimpArgs false
set_option linter.unusedVariables false
namespace Go.Abs
section
variable {P : Program} {n : Nat}
theorem AC_i {f : FuncId} {fn : Func} {c : Code} {N : Nat} (rs : List V) (hf : P.funcs[f]? = some fn) (hb : fn.body = some c) (hn : fn.ntmps = N) {args : List V} {os os' : Nat → Ob}
    (h : ∀ C : Cx, (∀ k, C.X0 k ≠ none → os k ≠ .no) → AWP P C N c (Fin P N fn rs os') ⟨fun t => args.getD t .jk, os⟩)
    (hname : (fn.name == "runtime.NumGoroutine") = false := by kernel_rfl) (hlen : args.length ≤ N := by simp) (hkeep : ∀ k, os k ≠ .no → os' k ≠ .no := by first | (simp [noOb]; done) | exact keep_all rfl) : AC P f args os (one1 rs) os' := by
  subst hn
  exact AC_intro hf hb hname hlen hkeep h
theorem zk {fn : Func} {rr : Array ResultVar} {rs vs : List V} {s' : Nat → V} {m' m1 : Nat → Ob} {u : List (Nat × Ob)} (L' : List (Nat × Ob)) (ks : List Nat) (hrr : fn.results = rr)
    (h1 : zhs P n ⟨s', m'⟩ rr.toList = some vs := by first | exact (zds (by conv => lhs; whnf) zcj) | exact (zds (by conv => lhs; whnf) (zds (by conv => lhs; whnf) zcj)) | exact (zds (by conv => lhs; whnf) (zds (by conv => lhs; whnf) (zds (by conv => lhs; whnf) zcj))) | exact (zds (by conv => lhs; whnf) (zds (by conv => lhs; whnf) (zds (by conv => lhs; whnf) (zds (by conv => lhs; whnf) zcj)))) | exact (zds (by conv => lhs; whnf) (zds (by conv => lhs; whnf) (zds (by conv => lhs; whnf) (zds (by conv => lhs; whnf) (zds (by conv => lhs; whnf) zcj))))) | exact zcj)
    (hu : fzU m' ks = u := by repeat (first | exact zhC | (apply zgt; focus ((conv => lhs; whnf); done)) | (apply zgs; focus ((conv => lhs; whnf); done))))
    (hm1 : app m' u = m1 := by simp only [app]; rfl)
    (h2 : GiveL m1 ks vs rs := by repeat (first | exact giveL_nil | refine giveL_cons (by first | exact .inl rfl | exact give_T rfl rfl | exact give_Ts rfl rfl rfl) ?_))
    (ho : HasO m1 L' := by repeat (first | exact zcz | refine zaj (by conv => lhs; whnf) (by rfl) ?_))
    (hi : L'.all (fun p => p.2.ids.all (fun j => (L'.map (·.1)).elem j)) = true := by rfl)
    (hr : (V.idsL rs).all (fun k => (L'.map (·.1)).elem k) = true := by rfl) : Ends P n fn rs (objs L') ⟨s', m'⟩ := by
  subst hrr
  exact zch L' ks h1 hu hm1 h2 ho hi hr
end
section
variable {P : Program} {C : Cx} {n : Nat} {Q : Exit → St → Prop} {s : Nat → V} {m : Nat → Ob}
theorem zap {β : Type} {c : Code} (asg och gar : List Nat) (sl : Nat × β → List (Nat × V)) (ob : Nat × β → List (Nat × Ob)) (Inv : Nat × β → Prop) (a0 : Nat × β) (h0 : Inv a0)
    (round : ∀ a, Inv a → AWP P C n c (Round2 asg och gar [] (fun a => a.1) sl ob Inv s m a Q) ⟨frame asg (slots (sl a)) s, frame och (objs (ob a)) m⟩)
    (hga : gar.all (fun k => isNo (m k)) = true := by rfl) (hdis : och.all (fun k => !gar.elem k) = true := by rfl) (hoc : ∀ a, (ob a).map (·.1) = och := by intro _; rfl)
    (hs : HasF s (sl a0) := by repeat (first | exact zc5 | refine zbj (by conv => lhs; whnf) (by rfl) ?_)) (ho : HasO m (ob a0) := by repeat (first | exact zcz | refine zaj (by conv => lhs; whnf) (by rfl) ?_)) : AWP P C n (.loop c) Q ⟨s, m⟩ :=
  zbP asg och gar [] (fun a => a.1) sl ob Inv a0 h0 hga hdis hoc hs ho (fun _ h => by cases h) freshS_nil freshM_nil round
theorem zgd {α : Type} {x y : Code} (asg och gar : List Nat) (sl : α → List (Nat × V)) (ob : α → List (Nat × Ob)) (Inv : α → Prop)
    (hA : AWP P C n x (JoinP asg och gar [] sl ob Inv s m Q) ⟨s, m⟩) (hJ : ∀ a, Inv a → AWP P C n y Q ⟨frame asg (slots (sl a)) s, frame och (objs (ob a)) m⟩)
    (hga : gar.all (fun k => isNo (m k)) = true := by rfl) (hoc : ∀ a, (ob a).map (·.1) = och := by intro _; rfl) : AWP P C n (.seq x y) Q ⟨s, m⟩ :=
  awp_seqJ asg och gar [] sl ob Inv hga hoc (fun _ h => by cases h) freshS_nil freshM_nil hA hJ
section
variable {α : Type} {asg och gar N : List Nat} {s0 : Nat → V} {m0 : Nat → Ob}
theorem s_jn {sl : α → List (Nat × V)} {ob : α → List (Nat × Ob)} {Inv : α → Prop} (a' : α) (h1 : Inv a') (h5 : HasR s och gar (qOf []) (sl a') := by repeat (first | exact trivial | refine hasR_cons (by conv => lhs; whnf) (by rfl) rfl ?_)) (h6 : HasQ m och gar (qOf []) (ob a') := by repeat (first | exact trivial | refine hasQ_cons (by conv => lhs; whnf) (by rfl) rfl ?_))
    (h3 : Off asg s s0 := by repeat (first | exact zf1 _ _ _ | exact zgM _ _ | refine off_upd rfl ?_ | refine off_sub rfl ?_ | refine zgL rfl ?_)) (h4 : Off (och ++ gar) m m0 := by repeat (first | exact zf1 _ _ _ | exact zgM _ _ | refine off_upd rfl ?_ | refine off_sub rfl ?_ | refine zgL rfl ?_)) (hR : okR2 [] och gar N = true := by decide) : JoinP asg och gar N sl ob Inv s0 m0 Q .normal ⟨s, m⟩ :=
  s_join a' [] h1 h5 h6 h3 h4 hR
theorem s_rn {sl : Nat × α → List (Nat × V)} {ob : Nat × α → List (Nat × Ob)} {Inv : Nat × α → Prop} {b : α} {fu : Nat} (a' : Nat × α) (h1 : Inv a') (R : List (Nat × Nat) := []) (h5 : HasR s och gar (qOf R) (sl a') := by repeat (first | exact trivial | refine hasR_cons (by conv => lhs; whnf) (by rfl) rfl ?_)) (h6 : HasQ m och gar (qOf R) (ob a') := by repeat (first | exact trivial | refine hasQ_cons (by conv => lhs; whnf) (by rfl) rfl ?_))
    (h2 : a'.1 < fu + 1 := by first | exact Nat.lt_succ_self _ | (dsimp only; omega))
    (h3 : Off asg s s0 := by repeat (first | exact zf1 _ _ _ | exact zgM _ _ | refine off_upd rfl ?_ | refine off_sub rfl ?_ | refine zgL rfl ?_)) (h4 : Off (och ++ gar) m m0 := by repeat (first | exact zf1 _ _ _ | exact zgM _ _ | refine off_upd rfl ?_ | refine off_sub rfl ?_ | refine zgL rfl ?_)) (hR : okR2 R och gar N = true := by decide) : Round2 asg och gar N (fun a => a.1) sl ob Inv s0 m0 (fu + 1, b) Q .normal ⟨s, m⟩ :=
  s_rnd2 a' R h1 h5 h6 h2 h3 h4 hR
end
end
end Go.Abs
end
section
set_option linter.unusedSimpArgs false
set_option linter.unusedVariables false
namespace Go.Abs
section
variable {P : Program} {C : Cx} {n : Nat} {s : Nat → V} {m : Nat → Ob} {w : World} {G : Im} {X : Xm}
theorem weak_toDar {k : Nat} {es : List (List T)} {e : TypeId} (hm : m k = .arr es e true) : Weak P C n ⟨s, m⟩ ⟨s, upd m k (.dar es e)⟩ := by
  rintro x w ⟨G, X, hM, hd, hsz, ht⟩
  exact ⟨G, X, Mem.toDar hM hm, hd, hsz, ht⟩
theorem awp_toDar {c : Code} {Q : Exit → St → Prop} (k : Nat) {es : List (List T)} {e : TypeId} (hm : m k = .arr es e true) (h : AWP P C n c Q ⟨s, upd m k (.dar es e)⟩) : AWP P C n c Q ⟨s, m⟩ := zd2 (weak_toDar hm) h
theorem weak_mvO {i a b : Nat} {o : Ob} (hno : o ≠ .no) (hs : s i = .ar a) (ha : m a = o) (hb : isNo (m b) = true) : Weak P C n ⟨s, m⟩ ⟨upd s i (.ar b), upd (upd m a .dead) b o⟩ := by
  rintro x w ⟨G, X, hM, hd, hsz, ht⟩
  replace hM : Mem P C m w G X := hM
  replace ht : ∀ t, t < n → V.Is G X (s t) (x.eval (.tmp t)) := ht
  have hb := zco hb
  have hXb : X b = none := (hM.free b).2 hb
  have hab : a ≠ b := fun h => by rw [h, hb] at ha; exact hno ha.symm
  cases hX : X a with
  | none => rw [(hM.free a).1 hX] at ha; exact absurd ha.symm hno
  | some v =>
    have e1 : ∀ k x, X k = some x → (fun k => if k = b then some v else X k) k = some x := fun k x hk => by
      by_cases h : k = b
      · rw [h, hXb] at hk; cases hk
      · simp only [if_neg h]; exact hk
    have hmo : ∀ k, k ≠ b → k ≠ a → upd (upd m a Ob.dead) b o k = m k := fun k h1 h2 => by rw [zA _ _ _ h1, zA _ _ _ h2]
    have hma : upd (upd m a Ob.dead) b o a = .dead := by rw [zA _ _ _ hab, zo]
    have hmb : upd (upd m a Ob.dead) b o b = o := zo _ _ _
    refine ⟨G, fun k => if k = b then some v else X k, ⟨hM.gle, hM.gold, hM.gok, hM.keeps, ?_, ?_, ?_, ?_, ?_, ?_⟩, hd, hsz, ?_⟩
    · intro k x hk
      by_cases h1 : k = b
      · rw [h1] at hk ⊢
        simp only [if_pos] at hk; cases hk
        simp only [hmb]
        have h8 := hM.ob a v hX
        rw [ha] at h8
        have h9 := Ob.Ok_ren (q := fun k => k) (Y := fun k => if k = b then some v else X k) (fun j _ y hy => e1 j y hy) h8
        rwa [Ob.ren_id] at h9
      · simp only [if_neg h1] at hk
        by_cases h2 : k = a
        · subst h2; simp only [hma]; trivial
        · simp only [hmo k h1 h2]
          have := hM.ob k x hk
          have := Ob.Ok_ren (q := fun k => k) (Y := fun k => if k = b then some v else X k) (fun j _ y hy => e1 j y hy) this
          rwa [Ob.ren_id] at this
    · intro k
      by_cases h1 : k = b
      · subst h1; simp only [hmb, if_true]; simp [hno]
      · simp only [if_neg h1]
        by_cases h2 : k = a
        · subst h2; simp only [hma, hX]; simp
        · simp only [hmo k h1 h2]; exact hM.free k
    · intro k k' x x' bl hk hk' B1 B2
      have red : ∀ k x, (if k = b then some v else X k) = some x → (upd (upd m a Ob.dead) b o k).has w x bl → ∃ k0, X k0 = some x ∧ (m k0).has w x bl ∧ ((k = b ∧ k0 = a) ∨ (k ≠ b ∧ k ≠ a ∧ k0 = k)) := by
        intro k x hk hbk
        by_cases h1 : k = b
        · subst h1
          rw [if_pos rfl] at hk; cases hk
          rw [hmb] at hbk
          exact ⟨a, hX, by rw [ha]; exact hbk, .inl ⟨rfl, rfl⟩⟩
        · rw [if_neg h1] at hk
          by_cases h2 : k = a
          · subst h2; rw [hma] at hbk; exact (Ob.has_dead hbk).elim
          · rw [hmo k h1 h2] at hbk
            exact ⟨k, hk, hbk, .inr ⟨h1, h2, rfl⟩⟩
      obtain ⟨k1, q1, q2, q3⟩ := red k x hk B1
      obtain ⟨k2, r1, r2, r3⟩ := red k' x' hk' B2
      have := hM.apart k1 k2 x x' bl q1 r1 q2 r2
      rcases q3 with ⟨rfl, rfl⟩ | ⟨h1, h2, rfl⟩ <;> rcases r3 with ⟨rfl, rfl⟩ | ⟨h3, h4, rfl⟩
      · rfl
      · exact absurd this.symm h4
      · exact absurd this h2
      · exact this
    · intro k x bl hk hbk
      by_cases h1 : k = b
      · subst h1
        simp only [if_true] at hk; cases hk
        simp only [hmb] at hbk
        exact hM.mine a v bl hX (by rw [ha]; exact hbk)
      · simp only [if_neg h1] at hk
        by_cases h2 : k = a
        · subst h2; simp only [hma] at hbk; exact (Ob.has_dead hbk).elim
        · simp only [hmo k h1 h2] at hbk; exact hM.mine k x bl hk hbk
    · intro k x hk
      by_cases h1 : k = b
      · subst h1; simp only [if_true] at hk; cases hk; exact hM.cell a v hX
      · simp only [if_neg h1] at hk; exact hM.cell k x hk
    · intro k x hk
      exact e1 k x (hM.old k x hk)
    · intro t htn
      simp only [upd]
      split
      · rename_i hti
        subst hti
        have := ht t htn
        rw [hs, V.Is, hX] at this
        rw [V.Is]; simp only [if_true]; exact this
      · exact V.Is.mono (Gle.refl _) (fun k x hk => e1 k x hk) _ _ (ht t htn)
theorem awp_mvD {c : Code} {Q : Exit → St → Prop} (i a b : Nat) {es : List (List T)} {e : TypeId} (hs : s i = .ar a) (ha : m a = .dar es e) (hb : isNo (m b) = true) (h : AWP P C n c Q ⟨upd s i (.ar b), upd (upd m a .dead) b (.dar es e)⟩) : AWP P C n c Q ⟨s, m⟩ := zd2 (weak_mvO (by simp) hs ha hb) h
theorem awp_toD {α : Type} {c : Code} {Q : Exit → St → Prop} (k : Nat) (row : α → List T) {es : List (List T)} {e : TypeId} (hm : m k = .arr es e true) (he : es = []) (h : AWP P C n c Q ⟨s, upd m k (.dar (([] : List α).map row) e)⟩) : AWP P C n c Q ⟨s, m⟩ := by
  subst he; exact awp_toDar k hm h
theorem plain_map {β : Type} {rowL : β → List T} (h : ∀ y, (rowL y).all T.plain = true) {l : List β} : plainR (l.map rowL) = true := by
  unfold plainR; simp only [List.all_map, List.all_eq_true]; intro y _; exact h y
end
section
variable {P : Program} {C : Cx} {n : Nat} {ops : Array Oper} {K : List (Nat × Oper × Ev) → St → Prop} {r : List (Oper × Nat)} {acc : List (Nat × Oper × Ev)} {ix : Nat} {s : Nat → V} {m : Nat → Ob} {d : Tmp} {ty : TypeId} {pos : String} {after : Array Edge} {g : Option (Nat × Bool)}
theorem s_lenD {α : Type} {l : List α} {row : α → List T} {t e e' : TypeId} {q : Nat} {x : Operand} {fp : List Nat} (ht : P.underlying t = some (.slice e)) (hr : Run P n ops K r ((ix, ⟨some d, .call { callee := .builtin .len, args := #[x], argTypes := #[t] }, ty, pos, after, g⟩, ⟨.t (.sc (.int .i64 (l.length : Nat))), [], fp⟩) :: acc) ⟨upd s d (.t (.sc (.int .i64 (l.length : Nat)))), m⟩) (hg : zD n ops ⟨some d, .call { callee := .builtin .len, args := #[x], argTypes := #[t] }, ty, pos, after, g⟩ ⟨s, m⟩ = some true := by rfl) (hx : ev n s x = .ar q := by conv => lhs; whnf) (hm : m q = .dar (l.map row) e' := by conv => lhs; whnf) (hfp : fpOf (idOf ⟨some d, .call { callee := .builtin .len, args := #[x], argTypes := #[t] }, ty, pos, after, g⟩) (ev n s) (.call { callee := .builtin .len, args := #[x], argTypes := #[t] }) = fp := by rfl) : Run P n ops K ((⟨some d, .call { callee := .builtin .len, args := #[x], argTypes := #[t] }, ty, pos, after, g⟩, ix) :: r) acc ⟨s, m⟩ := r_len hg ht hx (by simp only [lenV, hm, List.length_map]) hfp hr
theorem zgf {α : Type} {l : List α} {y : α} {t : TypeId} {x i : Operand} {e e' : TypeId} {sz q : Nat} {k : IntKind} {j : Int} {fp : List Nat} (row : α → List T) (hix : idx l j = some y) (he : elOf P t = some (e, sz)) (hr : Run P n ops K r ((ix, ⟨some d, .indexAddr t x i, ty, pos, after, g⟩, ⟨.re q j.toNat sz 0, [], fp⟩) :: acc) ⟨upd s d (.re q j.toNat sz 0), m⟩) (hg : zD n ops ⟨some d, .indexAddr t x i, ty, pos, after, g⟩ ⟨s, m⟩ = some true := by rfl) (hx : ev n s x = .ar q := by conv => lhs; whnf) (hm : m q = .dar (l.map row) e' := by conv => lhs; whnf) (hi : ev n s i = .t (.sc (.int k j)) := by conv => lhs; whnf) (hfp : fpOf (idOf ⟨some d, .indexAddr t x i, ty, pos, after, g⟩) (ev n s) (.indexAddr t x i) = fp := by rfl) : Run P n ops K ((⟨some d, .indexAddr t x i, ty, pos, after, g⟩, ix) :: r) acc ⟨s, m⟩ := r_indexAddr hg he hx hi (zfg hix).1 (by have := zfg hix; simp only [indexP, hm, List.length_map]; rw [if_pos (by omega)]) hfp hr
end
end Go.Abs
end
