/- A part of the proof: what the functions that the law calls answer, as pure values. -/
import Derived.KernelRfl
import Derived.Test.YtilpcjgklfjdgaaGreatK3ca536e78645
set_option linter.unusedSimpArgs false
set_option linter.unusedVariables false
section
set_option linter.unusedSimpArgs false
set_option linter.unusedVariables false
namespace Go.Abs
section
variable {P : Program} {n : Nat}
theorem AC_i {f : FuncId} {fn : Func} {c : Code} {N : Nat} (rs : List V) (hf : P.funcs[f]? = some fn) (hb : fn.body = some c) (hn : fn.ntmps = N) {args : List V} {os os' : Nat → Ob}
    (h : ∀ C : Cx, (∀ k, C.X0 k ≠ none → os k ≠ .no) → AWP P C N c (Fin P N fn rs os') ⟨fun t => args.getD t .jk, os⟩)
    (hname : (fn.name == "runtime.NumGoroutine") = false := by kernel_rfl) (hlen : args.length ≤ N := by simp) (hkeep : ∀ k, os k ≠ .no → os' k ≠ .no := by first | (simp [noOb]; done) | exact keep_all rfl) : AC P f args os (one1 rs) os' := by
  subst hn
  exact AC_intro hf hb hname hlen hkeep h
theorem zl {fn : Func} {rr : Array ResultVar} {rs vs : List V} {s' : Nat → V} {m' m1 : Nat → Ob} {u : List (Nat × Ob)} (L' : List (Nat × Ob)) (ks : List Nat) (hrr : fn.results = rr)
    (h1 : zhj P n ⟨s', m'⟩ rr.toList = some vs := by first | exact (zae (by conv => lhs; whnf) zR) | exact (zae (by conv => lhs; whnf) (zae (by conv => lhs; whnf) zR)) | exact (zae (by conv => lhs; whnf) (zae (by conv => lhs; whnf) (zae (by conv => lhs; whnf) zR))) | exact (zae (by conv => lhs; whnf) (zae (by conv => lhs; whnf) (zae (by conv => lhs; whnf) (zae (by conv => lhs; whnf) zR)))) | exact (zae (by conv => lhs; whnf) (zae (by conv => lhs; whnf) (zae (by conv => lhs; whnf) (zae (by conv => lhs; whnf) (zae (by conv => lhs; whnf) zR))))) | exact zR)
    (hu : fzU m' ks = u := by repeat (first | exact fzU_nil | (apply zgU; focus ((conv => lhs; whnf); done)) | (apply zgT; focus ((conv => lhs; whnf); done))))
    (hm1 : app m' u = m1 := by simp only [app]; rfl)
    (h2 : GiveL m1 ks vs rs := by repeat (first | exact giveL_nil | refine giveL_cons (by first | exact .inl rfl | exact give_T rfl rfl | exact give_Ts rfl rfl rfl) ?_))
    (ho : HasO m1 L' := by repeat (first | exact zaS | refine zT (by conv => lhs; whnf) (by rfl) ?_))
    (hi : L'.all (fun p => p.2.ids.all (fun j => (L'.map (·.1)).elem j)) = true := by rfl)
    (hr : (V.idsL rs).all (fun k => (L'.map (·.1)).elem k) = true := by rfl) : Ends P n fn rs (objs L') ⟨s', m'⟩ := by
  subst hrr
  exact zI L' ks h1 hu hm1 h2 ho hi hr
end
section
variable {P : Program} {C : Cx} {n : Nat} {Q : Exit → St → Prop} {s : Nat → V} {m : Nat → Ob}
theorem za1 {β : Type} {c : Code} (asg och gar : List Nat) (sl : Nat × β → List (Nat × V)) (ob : Nat × β → List (Nat × Ob)) (Inv : Nat × β → Prop) (a0 : Nat × β) (h0 : Inv a0)
    (round : ∀ a, Inv a → AWP P C n c (Round2 asg och gar [] (fun a => a.1) sl ob Inv s m a Q) ⟨frame asg (slots (sl a)) s, frame och (objs (ob a)) m⟩)
    (hga : gar.all (fun k => isNo (m k)) = true := by rfl) (hdis : och.all (fun k => !gar.elem k) = true := by rfl) (hoc : ∀ a, (ob a).map (·.1) = och := by intro _; rfl)
    (hs : HasF s (sl a0) := by repeat (first | exact za2 | refine zG (by conv => lhs; whnf) (by rfl) ?_)) (ho : HasO m (ob a0) := by repeat (first | exact zaS | refine zT (by conv => lhs; whnf) (by rfl) ?_)) : AWP P C n (.loop c) Q ⟨s, m⟩ :=
  zap asg och gar [] (fun a => a.1) sl ob Inv a0 h0 hga hdis hoc hs ho (fun _ h => by cases h) freshS_nil freshM_nil round
theorem zbt {α : Type} {x y : Code} (asg och gar : List Nat) (sl : α → List (Nat × V)) (ob : α → List (Nat × Ob)) (Inv : α → Prop)
    (hA : AWP P C n x (JoinP asg och gar [] sl ob Inv s m Q) ⟨s, m⟩) (hJ : ∀ a, Inv a → AWP P C n y Q ⟨frame asg (slots (sl a)) s, frame och (objs (ob a)) m⟩)
    (hga : gar.all (fun k => isNo (m k)) = true := by rfl) (hoc : ∀ a, (ob a).map (·.1) = och := by intro _; rfl) : AWP P C n (.seq x y) Q ⟨s, m⟩ :=
  awp_seqJ asg och gar [] sl ob Inv hga hoc (fun _ h => by cases h) freshS_nil freshM_nil hA hJ
section
variable {α : Type} {asg och gar N : List Nat} {s0 : Nat → V} {m0 : Nat → Ob}
theorem s_jn {sl : α → List (Nat × V)} {ob : α → List (Nat × Ob)} {Inv : α → Prop} (a' : α) (h1 : Inv a') (h5 : HasR s och gar (qOf []) (sl a') := by repeat (first | exact trivial | refine hasR_cons (by conv => lhs; whnf) (by rfl) rfl ?_)) (h6 : HasQ m och gar (qOf []) (ob a') := by repeat (first | exact trivial | refine hasQ_cons (by conv => lhs; whnf) (by rfl) rfl ?_))
    (h3 : Off asg s s0 := by repeat (first | exact zgb _ _ _ | exact zgO _ _ | refine off_upd rfl ?_ | refine off_sub rfl ?_ | refine zgN rfl ?_)) (h4 : Off (och ++ gar) m m0 := by repeat (first | exact zgb _ _ _ | exact zgO _ _ | refine off_upd rfl ?_ | refine off_sub rfl ?_ | refine zgN rfl ?_)) (hR : okR2 [] och gar N = true := by decide) : JoinP asg och gar N sl ob Inv s0 m0 Q .normal ⟨s, m⟩ :=
  s_join a' [] h1 h5 h6 h3 h4 hR
theorem s_rn {sl : Nat × α → List (Nat × V)} {ob : Nat × α → List (Nat × Ob)} {Inv : Nat × α → Prop} {b : α} {fu : Nat} (a' : Nat × α) (h1 : Inv a') (R : List (Nat × Nat) := []) (h5 : HasR s och gar (qOf R) (sl a') := by repeat (first | exact trivial | refine hasR_cons (by conv => lhs; whnf) (by rfl) rfl ?_)) (h6 : HasQ m och gar (qOf R) (ob a') := by repeat (first | exact trivial | refine hasQ_cons (by conv => lhs; whnf) (by rfl) rfl ?_))
    (h2 : a'.1 < fu + 1 := by first | exact Nat.lt_succ_self _ | (dsimp only; omega))
    (h3 : Off asg s s0 := by repeat (first | exact zgb _ _ _ | exact zgO _ _ | refine off_upd rfl ?_ | refine off_sub rfl ?_ | refine zgN rfl ?_)) (h4 : Off (och ++ gar) m m0 := by repeat (first | exact zgb _ _ _ | exact zgO _ _ | refine off_upd rfl ?_ | refine off_sub rfl ?_ | refine zgN rfl ?_)) (hR : okR2 R och gar N = true := by decide) : Round2 asg och gar N (fun a => a.1) sl ob Inv s0 m0 (fu + 1, b) Q .normal ⟨s, m⟩ :=
  s_rnd2 a' R h1 h5 h6 h2 h3 h4 hR
end
end
end Go.Abs
end
section
set_option linter.unusedSimpArgs false
set_option linter.unusedVariables false
namespace Go.Abs
section
variable {P : Program} {C : Cx} {n : Nat} {s : Nat → V} {m : Nat → Ob} {w : World} {G : Im} {X : Xm}
theorem awp_nlB {c : Code} {Q : Exit → St → Prop} {cs : List V} (k i : Nat) (ds : List V) (hm : m k = .box cs) (hi : cs[i]? = some .nl) (hd : cs.set i (.t (.sl [])) = ds) (h : AWP P C n c Q ⟨s, upd m k (.box ds)⟩) : AWP P C n c Q ⟨s, m⟩ := by
  subst hd
  refine zgV ?_ h
  rintro x w ⟨G, X, hM, hd', hsz, ht⟩
  replace hM : Mem P C m w G X := hM
  refine ⟨G, X, Mem.less2 hM k _ (fun y hy hok => ?_) ⟨fun h => by simp at h, fun h => by rw [hm] at h; cases h⟩, hd', hsz, ht⟩
  rw [hm] at hok ⊢
  obtain ⟨b, cur, e, rfl, hw, hl, hn⟩ := hok
  refine ⟨⟨b, cur, e, rfl, hw, V.IsL.of_get (by rw [List.length_set]; exact hl.length) fun j v hv => ?_, hn⟩, fun _ hb => hb⟩
  rw [List.getElem?_set] at hv
  split at hv
  · rename_i hj
    subst hj
    split at hv
    · cases hv
      obtain ⟨z, hz, hi'⟩ := hl.get i _ hi
      refine ⟨z, hz, ?_⟩
      rw [V.Is] at hi'; subst hi'
      rw [V.Is, T.Is]
      exact ⟨none, 0, 0, rfl, Nat.le_refl _, Nat.zero_le _, .inl rfl⟩
    · cases hv
  · exact hl.get j v hv
end
end Go.Abs
end
