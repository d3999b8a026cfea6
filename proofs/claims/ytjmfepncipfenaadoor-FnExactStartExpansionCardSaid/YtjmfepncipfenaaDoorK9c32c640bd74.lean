/- A part of the proof: what the functions that the law calls answer, as pure values. -/
import Derived.Test.YtjmfepncipfenaaDoorKe38270508f13
set_option linter.unusedSimpArgs false
set_option linter.unusedVariables false
section
set_option linter.unusedVariables false
set_option linter.unusedSimpArgs false
namespace Go.Abs
abbrev Leaf := Nat × Nat × TypeId × List (List T)
def tkRow (r : List T) : List Leaf → List T
  | [] => r
  | p :: L => tkRow (r.set p.1 .any) L
def tkObs : List Leaf → List (Nat × Ob)
  | [] => []
  | p :: L => (p.2.1, .dar p.2.2.2 p.2.2.1) :: tkObs L
def tkV (L : List Leaf) : Nat → List T → Option (List V)
  | _, [] => some []
  | j, t :: ts => match L.find? (fun p => p.1 == j) with
    | some p => (tkV L (j + 1) ts).map (.ar p.2.1 :: ·)
    | none => bif t.plain then (tkV L (j + 1) ts).map (.t t :: ·) else none
theorem tkV_get {L : List Leaf} : ∀ (ts : List T) (j0 : Nat) (vs : List V), tkV L j0 ts = some vs → vs.length = ts.length ∧ ∀ (j : Nat) (v : V), vs[j]? = some v → (∃ p ∈ L, p.1 = j0 + j ∧ v = .ar p.2.1) ∨ ∃ t, ts[j]? = some t ∧ t.plain = true ∧ v = .t t
  | [], j0, vs, h => by
    rw [tkV] at h; cases h
    exact ⟨rfl, fun j v h => by cases h⟩
  | t :: ts, j0, vs, h => by
    rw [tkV] at h
    split at h
    · rename_i p hp
      cases hr : tkV L (j0 + 1) ts with
      | none => rw [hr] at h; cases h
      | some us =>
        rw [hr] at h; cases h
        obtain ⟨a, b⟩ := tkV_get ts (j0 + 1) us hr
        refine ⟨by rw [List.length_cons, List.length_cons, a], fun j v hv => ?_⟩
        cases j with
        | zero =>
          cases hv
          exact .inl ⟨p, List.mem_of_find?_eq_some hp, by have := List.find?_some hp; simpa using this, rfl⟩
        | succ j =>
          rw [List.getElem?_cons_succ] at hv
          rcases b j v hv with ⟨q, h1, h2, h3⟩ | ⟨u, h1, h2, h3⟩
          · exact .inl ⟨q, h1, by omega, h3⟩
          · exact .inr ⟨u, by rw [List.getElem?_cons_succ]; exact h1, h2, h3⟩
    · cases hpl : t.plain with
      | false => rw [hpl] at h; cases h
      | true =>
        rw [hpl, cond_true] at h
        cases hr : tkV L (j0 + 1) ts with
        | none => rw [hr] at h; cases h
        | some us =>
          rw [hr] at h; cases h
          obtain ⟨a, b⟩ := tkV_get ts (j0 + 1) us hr
          refine ⟨by rw [List.length_cons, List.length_cons, a], fun j v hv => ?_⟩
          cases j with
          | zero => cases hv; exact .inr ⟨t, rfl, hpl, rfl⟩
          | succ j =>
            rw [List.getElem?_cons_succ] at hv
            rcases b j v hv with ⟨q, h1, h2, h3⟩ | ⟨u, h1, h2, h3⟩
            · exact .inl ⟨q, h1, by omega, h3⟩
            · exact .inr ⟨u, by rw [List.getElem?_cons_succ]; exact h1, h2, h3⟩
section
variable {P : Program} {C : Cx} {w : World} {G : Im}
theorem Mem.dropHoles {m : Nat → Ob} {X : Xm} (hM : Mem P C m w G X) {k : Nat} {es : List (List T)} {e : TypeId} {hs : List (Nat × Nat × Nat)} (hm : m k = .dah es e hs) : Mem P C (upd m k (.dar es e)) w G X :=
  Mem.less2 hM k _ (fun x' hx' hok => by
    rw [hm] at hok ⊢
    exact ⟨⟨hok.1, hok.2.1⟩, fun b hb => hb⟩) ⟨fun h => by simp at h, fun h => by rw [hm] at h; cases h⟩
theorem Mem.takeRow {k i : Nat} {e : TypeId} {x : Value} {inf : TypeInfo} {g n c : Nat} (hinf : P.info? e = some inf) (hxv : x = .slice (some ⟨g, 0, none⟩) n c) : ∀ (L : List Leaf) (m : Nat → Ob) (X : Xm) (es : List (List T)) (r : List T),
    Mem P C m w G X → m k = .dar es e → X k = some x → es[i]? = some r → (∀ p ∈ L, r[p.1]? = some (.ow p.2.2.1 p.2.2.2)) → (L.map (·.1)).Nodup → (∀ p ∈ L, m p.2.1 = .no) → (L.map (·.2.1)).Nodup →
    ∃ X', Xle X X' ∧ Mem P C (app m ((k, .dar (es.set i (tkRow r L)) e) :: tkObs L)) w G X' ∧ X' k = some x ∧ ∀ p ∈ L, ∃ y, X' p.2.1 = some y ∧ (cellsOf w g)[i * inf.size + p.1]? = some y
  | [], m, X, es, r, hM, hm, hx, hi, _, _, _, _ => by
    refine ⟨X, Xle.refl X, ?_, hx, fun p hp => by cases hp⟩
    have e1 : es.set i r = es := by
      obtain ⟨h1, h2⟩ := List.getElem?_eq_some_iff.1 hi
      rw [← h2]; exact List.set_getElem_self h1
    have : app m ((k, .dar (es.set i (tkRow r [])) e) :: tkObs []) = m := by
      show upd m k _ = m
      rw [tkRow, e1]
      funext z
      by_cases hz : z = k
      · subst hz; rw [upd_same, hm]
      · rw [upd_ne _ _ _ hz]
    rw [this]; exact hM
  | p :: L, m, X, es, r, hM, hm, hx, hi, hL, hn1, hd, hn2 => by
    have hdp := hd p (by simp)
    have hkp : k ≠ p.2.1 := fun h => by rw [← h, hm] at hdp; cases hdp
    obtain ⟨y, inf', g', n', c', hinf', hxe, hyc, hle, hM1⟩ := hM.takeLeafH hm hx hdp hi (hL p (by simp))
    rw [hinf] at hinf'; cases hinf'
    rw [hxv] at hxe; cases hxe
    have hM2 := hM1.dropHoles (k := k) (es := es.set i (r.set p.1 .any)) (e := e) (hs := [(i, p.1, p.2.1)]) (by rw [upd_ne _ _ _ hkp, upd_same])
    rw [List.map_cons, List.nodup_cons] at hn1 hn2
    have hil : i < es.length := (List.getElem?_eq_some_iff.1 hi).1
    obtain ⟨X', a1, a2, a3, a4⟩ := Mem.takeRow hinf hxv L _ _ (es.set i (r.set p.1 .any)) (r.set p.1 .any) hM2 (upd_same _ _ _) (hle k x hx) (by rw [List.getElem?_set_self]; simpa using hil) (fun q hq => by
      rw [List.getElem?_set_ne (fun h => hn1.1 (by rw [h]; exact List.mem_map_of_mem hq))]
      exact hL q (by simp [hq])) hn1.2 (fun q hq => by
      have hqp : q.2.1 ≠ p.2.1 := fun h => hn2.1 (by rw [← h]; exact List.mem_map_of_mem (f := fun z : Leaf => z.2.1) hq)
      have hqk : q.2.1 ≠ k := fun h => by
        have := hd q (by simp [hq]); rw [h, hm] at this; cases this
      rw [upd_ne _ _ _ hqk, upd_ne _ _ _ hqp, upd_ne _ _ _ hqk]; exact hd q (by simp [hq])) hn2.2
    refine ⟨X', hle.trans a1, ?_, a3, fun q hq => ?_⟩
    · have e2 : app (upd (upd (upd m k (.dah (es.set i (r.set p.1 .any)) e [(i, p.1, p.2.1)])) p.2.1 (.dar p.2.2.2 p.2.2.1)) k (.dar (es.set i (r.set p.1 .any)) e)) ((k, .dar ((es.set i (r.set p.1 .any)).set i (tkRow (r.set p.1 .any) L)) e) :: tkObs L) = app m ((k, .dar (es.set i (tkRow r (p :: L))) e) :: tkObs (p :: L)) := by
        show app (upd _ k _) (tkObs L) = app (upd (upd m k _) p.2.1 _) (tkObs L)
        rw [List.set_set, tkRow]
        congr 1
        funext z
        unfold upd
        by_cases h1 : z = k
        · subst h1; simp [hkp]
        · simp [h1]
      rw [← e2]; exact a2
    · rcases List.mem_cons.1 hq with rfl | hq
      · exact ⟨y, a1 _ _ (upd_same _ _ _), hyc⟩
      · exact a4 q hq
theorem did_load_take {m : Nat → Ob} {X : Xm} (hM : Mem P C m w G X) {t e : TypeId} {k i sz : Nat} {es : List (List T)} {r : List T} {vs : List V} (L : List Leaf) (hm : m k = .dar es e) (hes : szOf P e = some sz) (hi : es[i]? = some r)
    (hL : ∀ p ∈ L, r[p.1]? = some (.ow p.2.2.1 p.2.2.2)) (hn1 : (L.map (·.1)).Nodup) (hd : ∀ p ∈ L, m p.2.1 = .no) (hn2 : (L.map (·.2.1)).Nodup) (hv : tkV L 0 r = some vs) (hag : aggOf P t = some true) (hsz : szOf P t = some sz)
    {ρ : Operand → Value} {o : Oper} {x : Operand} (ho : o.op = .load t x) (hx : V.Is G X (.re k i sz 0) (ρ x)) :
    Did P C m G X ((execOp ρ o).run P w) (.ag vs) ((k, .dar (es.set i (tkRow r L)) e) :: tkObs L) := by
  rw [V.Is] at hx
  obtain ⟨b, n, c, hX, hpx⟩ := hx
  rw [Nat.add_zero] at hpx
  have hob := hM.ob k _ hX
  rw [hm] at hob
  obtain ⟨⟨ys, inf, hinf, hown, hrr, hn⟩, _⟩ := hob
  have hinfs : inf.size = sz := by simp [szOf, hinf] at hes; exact hes
  have hil : i < es.length := (List.getElem?_eq_some_iff.1 hi).1
  rcases own_cases hown with ⟨_, h00, _⟩ | ⟨g, cap, cur, h0, hg, _, h4, _, h6, h7, hsub⟩
  · omega
  cases h0
  have hfl : r.length = sz := by rw [← hinfs]; exact T.RowsO.len hrr r (List.mem_of_getElem? hi)
  obtain ⟨X', a1, a2, a3, a4⟩ := Mem.takeRow hinf rfl L m X es r hM hm hX hi hL hn1 hd hn2
  obtain ⟨v1, v2⟩ := tkV_get r 0 vs hv
  have hat : V.At G X' vs (cur.toList.drop (i * sz)) := fun j v hv => by
    rcases v2 j v hv with ⟨p, hp, hpj, rfl⟩ | ⟨y, ht, hpy, rfl⟩
    · obtain ⟨y, hy1, hy2⟩ := a4 p hp
      rw [cellsOf_eq hg, hinfs, hpj, Nat.zero_add] at hy2
      exact ⟨y, by rw [List.getElem?_drop]; exact hy2, by rw [V.Is]; exact hy1⟩
    · obtain ⟨c, hc, hic⟩ := T.RowsO.get hrr i j r y hi ht
      rw [hinfs] at hc
      have hcc := hsub _ _ hc
      rw [cellsOf_eq hg] at hcc
      exact ⟨c, by rw [List.getElem?_drop]; exact hcc, by rw [V.Is]; exact T.Is_of y c hpy hic⟩
  have htk : takeT P t vs = some (.ag vs) := by
    rw [takeT, hag, hsz]
    have e2 : vs.length = sz := by rw [v1, hfl]
    simp only [e2, Nat.le_refl, if_true]
    rw [← e2, List.take_length]
  obtain ⟨y, hr, hi2⟩ := run_load_is htk hg hat
  refine ⟨.value y, y, w, G, X', ?_, .inl rfl, Gle.refl G, a1, a2, hi2⟩
  simp [execOp, ho, hpx, hr]
end
end Go.Abs
end
section
set_option linter.unusedVariables false
set_option linter.unusedSimpArgs false
namespace Go.Abs
def T.tk : T → T
  | .ow _ _ => .any
  | t => t
section
variable {P : Program} {n : Nat} {ops : Array Oper} {K : List (Nat × Oper × Ev) → St → Prop} {r : List (Oper × Nat)} {acc : List (Nat × Oper × Ev)} {ix : Nat} {s : Nat → V} {m : Nat → Ob} {d : Tmp} {ty : TypeId} {pos : String} {after : Array Edge} {g : Option (Nat × Bool)}
theorem s_ixO {t e e' : TypeId} {x i : Operand} {sz q : Nat} {es : List (List T)} {hs : List (Nat × Nat × Nat)} {k : IntKind} {j : Int} (h0 : 0 ≤ j) (hl : j.toNat < es.length) (he : elOf P t = some (e, sz))
    (hr : Run P n ops K r ((ix, ⟨some d, .indexAddr t x i, ty, pos, after, g⟩, ⟨.re q j.toNat sz 0, [(q, .dar es e')], [q]⟩) :: acc) ⟨upd s d (.re q j.toNat sz 0), upd m q (.dar es e')⟩) (hg : guardOf n ops ⟨some d, .indexAddr t x i, ty, pos, after, g⟩ ⟨s, m⟩ = some true := by rfl) (hx : ev n s x = .ar q := by conv => lhs; whnf) (hi : ev n s i = .t (.sc (.int k j)) := by conv => lhs; whnf) (hm : m q = .dah es e' hs := by conv => lhs; whnf)  : Run P n ops K ((⟨some d, .indexAddr t x i, ty, pos, after, g⟩, ix) :: r) acc ⟨s, m⟩ :=
  run_gen (e := ⟨.re q j.toNat sz 0, [(q, .dar es e')], [q]⟩) hg (fun s' m' q1 q2 C G X w ρ hM hE => by
    have hx' := hE x
    have hi' := hE i
    rw [q1 x (by simp [Op.operands]), hx] at hx'
    rw [q1 i (by simp [Op.operands]), hi, V.Is, T.Is] at hi'
    have h2 := hM.dropHoles (k := q) (by rw [q2 q (by simp)]; exact hm)
    exact did_indexAddr h2 he h0 (p := .ar q) (v := .re q j.toNat sz 0) (by simp only [indexP, upd_same]; rw [if_pos hl]) (o := ⟨some d, .indexAddr t x i, ty, pos, after, g⟩) rfl hx' hi') hr
theorem s_stR {t e : TypeId} {p x : Operand} {q i sz : Nat} {es es2 : List (List T)} {vs : List V} (fs : List T) (hs : List (Nat × Nat × Nat)) (hi : i < es.length) (hes : es.set i fs = es2) (hsz : szOf P t = some sz) (he : szOf P e = some sz)
    (hr : Run P n ops K r ((ix, ⟨none, .store t p x, ty, pos, after, g⟩, ⟨.jk, [(q, .dah es2 e hs)], [q]⟩) :: acc) ⟨s, upd m q (.dah es2 e hs)⟩) (hg : guardOf n ops ⟨none, .store t p x, ty, pos, after, g⟩ ⟨s, m⟩ = some true := by rfl) (hp : ev n s p = .re q i sz 0 := by conv => lhs; whnf) (hm : m q = .dar es e := by conv => lhs; whnf) (hx : ev n s x = .ag vs := by conv => lhs; whnf) (hrel : RelC vs fs := by repeat (first | exact .nil | refine .t ?_ | refine .ar ?_ | refine .nl ?_)) (hfl : fs.length = sz := by rfl) (hh : HolesAt vs i hs := by repeat (first | exact trivial | refine ⟨⟨rfl, rfl⟩, ?_⟩)) : Run P n ops K ((⟨none, .store t p x, ty, pos, after, g⟩, ix) :: r) acc ⟨s, m⟩ :=
  run_gen (e := ⟨.jk, [(q, .dah es2 e hs)], [q]⟩) hg (fun s' m' q1 q2 C G X w ρ hM hE => by
    have hp' := hE p
    have hx' := hE x
    rw [q1 p (by simp [Op.operands]), hp] at hp'
    rw [q1 x (by simp [Op.operands]), hx] at hx'
    rw [← hes]
    exact did_store_row hM (by rw [q2 q (by simp)]; exact hm) he hi hsz hrel hfl hh rfl hp' hx') hr
theorem s_stL {t e : TypeId} {p x : Operand} {q i sz off k : Nat} {es : List (List T)} {fs : List T} (hi : es[i]? = some fs) (hj : fs[off]? = some .any) (hs : szOf P t = some 1) (he : szOf P e = some sz)
    (hr : Run P n ops K r ((ix, ⟨none, .store t p x, ty, pos, after, g⟩, ⟨.jk, [(q, .dah es e [(i, off, k)])], [q]⟩) :: acc) ⟨s, upd m q (.dah es e [(i, off, k)])⟩) (hg : guardOf n ops ⟨none, .store t p x, ty, pos, after, g⟩ ⟨s, m⟩ = some true := by rfl) (hp : ev n s p = .re q i sz off := by conv => lhs; whnf) (hm : m q = .dar es e := by conv => lhs; whnf) (hx : ev n s x = .ar k := by conv => lhs; whnf)  : Run P n ops K ((⟨none, .store t p x, ty, pos, after, g⟩, ix) :: r) acc ⟨s, m⟩ :=
  run_gen (e := ⟨.jk, [(q, .dah es e [(i, off, k)])], [q]⟩) hg (fun s' m' q1 q2 C G X w ρ hM hE => by
    have hp' := hE p
    have hx' := hE x
    rw [q1 p (by simp [Op.operands]), hp] at hp'
    rw [q1 x (by simp [Op.operands]), hx] at hx'
    exact did_store_dah hM (by rw [q2 q (by simp)]; exact hm) he hi hj hs (o := ⟨none, .store t p x, ty, pos, after, g⟩) rfl hp' hx') hr
theorem s_ldT {t e : TypeId} {x : Operand} {q i sz : Nat} {es es2 : List (List T)} {m2 : Nat → Ob} (L : List Leaf) (fs : List T) (vs : List V) (hi : es[i]? = some fs) (hes : es.set i (tkRow fs L) = es2) (hag : aggOf P t = some true) (hs : szOf P t = some sz) (he : szOf P e = some sz)
    (hr : Run P n ops K r ((ix, ⟨some d, .load t x, ty, pos, after, g⟩, ⟨.ag vs, (q, .dar es2 e) :: tkObs L, (q :: L.map (·.2.1))⟩) :: acc) ⟨upd s d (.ag vs), m2⟩) (hg : guardOf n ops ⟨some d, .load t x, ty, pos, after, g⟩ ⟨s, m⟩ = some true := by rfl) (hx : ev n s x = .re q i sz 0 := by conv => lhs; whnf) (hm : m q = .dar es e := by conv => lhs; whnf) (hm2 : app m ((q, .dar es2 e) :: tkObs L) = m2 := by simp only [tkObs, app]; rfl) (hL : ∀ p ∈ L, fs[p.1]? = some (.ow p.2.2.1 p.2.2.2) := by simp) (hn1 : (L.map (·.1)).Nodup := by simp only [List.map_cons, List.map_nil]; decide) (hd : ∀ p ∈ L, isNo (m p.2.1) = true := by simp) (hn2 : (L.map (·.2.1)).Nodup := by simp only [List.map_cons, List.map_nil]; decide) (hv : tkV L 0 fs = some vs := by rfl)  : Run P n ops K ((⟨some d, .load t x, ty, pos, after, g⟩, ix) :: r) acc ⟨s, m⟩ := by
  subst hm2
  exact run_gen (e := ⟨.ag vs, (q, .dar es2 e) :: tkObs L, (q :: L.map (·.2.1))⟩) hg (fun s' m' q1 q2 C G X w ρ hM hE => by
    have hx' := hE x
    rw [q1 x (by simp [Op.operands]), hx] at hx'
    rw [← hes]
    exact did_load_take hM L (by rw [q2 q (by simp)]; exact hm) he hi hL hn1 (fun p hp => by rw [q2 p.2.1 (by simp only [List.mem_cons, List.mem_map]; exact .inr ⟨p, hp, rfl⟩)]; exact isNo_eq (hd p hp)) hn2 hv hag hs (o := ⟨some d, .load t x, ty, pos, after, g⟩) rfl hx') hr
end
section
variable {P : Program} {C : Cx} {n : Nat} {c : Code} {Q : Exit → St → Prop} {s : Nat → V} {m : Nat → Ob}
theorem own_max {P : Program} {C : Cx} {m : Nat → Ob} {w : World} {G : Im} {X : Xm} (hM : Mem P C m w G X) {q : Nat} {es : List (List T)} {e : TypeId} (hm : m q = .dar es e) : es.length ≤ maxLen := by
  have hX : ∃ v, X q = some v := by
    cases hX : X q with
    | none => rw [(hM.free q).1 hX] at hm; cases hm
    | some v => exact ⟨v, rfl⟩
  obtain ⟨v, hX⟩ := hX
  have hob := hM.ob q v hX
  rw [hm] at hob
  obtain ⟨⟨ys, inf, hinf, hown, hrr, hn⟩, _⟩ := hob
  rcases own_cases hown with ⟨_, h00, _⟩ | ⟨g, cap, cur, _, _, _, h4, h5, _⟩
  · omega
  · omega
theorem awp_mixT {α : Type} (q : Nat) {r0 : α → List T} (r1 : α → List T) (l : List α) {e : TypeId} (h : AWP P C n c Q ⟨s, upd m q (.dar (mixR r0 r1 (0 : Int).toNat l) e)⟩)
    (hm : m q = .dar (l.map r0) e := by conv => lhs; whnf) : AWP P C n c Q ⟨s, m⟩ := by
  have : upd m q (.dar (mixR r0 r1 (0 : Int).toNat l) e) = m := by funext z; by_cases hz : z = q; (· subst hz; rw [upd_same, hm]; rfl); (· rw [upd_ne _ _ _ hz])
  rw [this] at h; exact h
theorem awp_mixS {α : Type} (q : Nat) {r0 r1 : α → List T} {l : List α} {y : α} {j : Int} {e : TypeId} (hix : idx l j = some y) (h : AWP P C n c Q ⟨s, upd m q (.dar (mixR r0 r1 (w64 (j + 1)).toNat l) e)⟩)
    (hm : m q = .dar (mixR r0 r1 (j.toNat + 1) l) e := by conv => lhs; whnf) : AWP P C n c Q ⟨s, m⟩ := by
  refine awp_weak ?_ h
  rintro x w ⟨G, X, hM, hd', hsz, ht⟩
  replace hM : Mem P C m w G X := hM
  have h0 := idx_some hix
  have hml := own_max hM hm
  rw [mixR_len] at hml
  have hw : w64 (j + 1) = j + 1 := by
    simp only [maxLen] at hml
    exact IntWalk.i64_in _ (by omega)
  rw [hw, show (j + 1).toNat = j.toNat + 1 by omega]
  have : upd m q (.dar (mixR r0 r1 (j.toNat + 1) l) e) = m := by funext z; by_cases hz : z = q; (· subst hz; rw [upd_same, hm]); (· rw [upd_ne _ _ _ hz])
  rw [this]
  exact ⟨G, X, hM, hd', hsz, ht⟩
theorem awp_naZ {α : Type} (q : Nat) {row : α → List T} {l : List α} {e : TypeId} {fs : List T} (y2 z : α) (hrow : row y2 = fs) (h : AWP P C n c Q ⟨s, upd m q (.dar (((l ++ [z]).set ((l.length : Int)).toNat y2).map row) e)⟩)
    (hm : m q = .dah (l.map row ++ [fs]) e [] := by conv => lhs; whnf) : AWP P C n c Q ⟨s, m⟩ := by
  refine awp_weak ?_ h
  rintro x w ⟨G, X, hM, hd', hsz, ht⟩
  replace hM : Mem P C m w G X := hM
  have h1 := hM.noHole hm
  have e1 : (l ++ [z]).set ((l.length : Int)).toNat y2 = l ++ [y2] := by simp
  rw [← hrow, show l.map row ++ [row y2] = (l ++ [y2]).map row by simp, ← e1] at h1
  exact ⟨G, X, h1, hd', hsz, ht⟩
end
end Go.Abs
end
