/- Arrays that are handed over and handed back. -/
import Derived.Test.YtgicgbokgmmgdaaAbsW
set_option linter.unusedSimpArgs false
set_option linter.unusedVariables false
namespace Go.Abs
section
variable {P : Program} {n : Nat} {os : Nat → Ob} {K : Exit → St → Prop} {s : Nat → V} {m : Nat → Ob}
/-- An array gets a new name; its old name names nothing any more. -/
theorem weak_mv {C : Cx} {i a b : Nat} {es : List (List T)} {e : TypeId} {md : Bool} (hs : s i = .ar a) (ha : m a = .arr es e md) (hb : isNo (m b) = true) : Weak P C n ⟨s, m⟩ ⟨upd s i (.ar b), upd (upd m a .dead) b (.arr es e md)⟩ := by
  rintro x w ⟨G, X, hM, hd, hsz, ht⟩
  replace hM : Mem P C m w G X := hM
  replace ht : ∀ t, t < n → V.Is G X (s t) (x.eval (.tmp t)) := ht
  have hb := isNo_eq hb
  have hXb : X b = none := (hM.free b).2 hb
  have hab : a ≠ b := fun h => by rw [h, hb] at ha; cases ha
  cases hX : X a with
  | none => rw [(hM.free a).1 hX] at ha; cases ha
  | some v =>
    have e1 : ∀ k x, X k = some x → (fun k => if k = b then some v else X k) k = some x := fun k x hk => by
      by_cases h : k = b
      · rw [h, hXb] at hk; cases hk
      · simp only [if_neg h]; exact hk
    have hmo : ∀ k, k ≠ b → k ≠ a → upd (upd m a Ob.dead) b (.arr es e md) k = m k := fun k h1 h2 => by rw [upd_ne _ _ _ h1, upd_ne _ _ _ h2]
    have hma : upd (upd m a Ob.dead) b (.arr es e md) a = .dead := by rw [upd_ne _ _ _ hab, upd_same]
    have hmb : upd (upd m a Ob.dead) b (.arr es e md) b = .arr es e md := upd_same _ _ _
    have hblk : ∀ x, Ob.blk .dead x = none := fun x => by cases x <;> rfl
    refine ⟨G, fun k => if k = b then some v else X k, ⟨hM.gle, hM.gold, hM.gok, hM.keeps, ?_, ?_, ?_, ?_, ?_, ?_⟩, hd, hsz, ?_⟩
    · intro k x hk
      by_cases h1 : k = b
      · subst h1
        simp only [if_pos] at hk; cases hk
        simp only [hmb]
        have := hM.ob a v hX
        rw [ha] at this
        exact this
      · simp only [if_neg h1] at hk
        by_cases h2 : k = a
        · subst h2; simp only [hma]; trivial
        · simp only [hmo k h1 h2]
          have := hM.ob k x hk
          have := Ob.Ok_ren (q := fun k => k) (Y := fun k => if k = b then some v else X k) (fun j _ y hy => e1 j y hy) this
          rwa [Ob.ren_id] at this
    · intro k
      by_cases h1 : k = b
      · subst h1; simp only [hmb, if_true]; simp
      · simp only [if_neg h1]
        by_cases h2 : k = a
        · subst h2; simp only [hma, hX]; simp
        · simp only [hmo k h1 h2]; exact hM.free k
    · intro k k' x x' bl hk hk' hb1 hb2
      have red : ∀ k x, (if k = b then some v else X k) = some x → (upd (upd m a Ob.dead) b (.arr es e md) k).blk x = some bl → ∃ k0, X k0 = some x ∧ (m k0).blk x = some bl ∧ ((k = b ∧ k0 = a) ∨ (k ≠ b ∧ k ≠ a ∧ k0 = k)) := by
        intro k x hk hbk
        by_cases h1 : k = b
        · subst h1
          rw [if_pos rfl] at hk; cases hk
          rw [hmb] at hbk
          exact ⟨a, hX, by rw [ha]; exact hbk, .inl ⟨rfl, rfl⟩⟩
        · rw [if_neg h1] at hk
          by_cases h2 : k = a
          · subst h2; rw [hma, hblk] at hbk; cases hbk
          · rw [hmo k h1 h2] at hbk
            exact ⟨k, hk, hbk, .inr ⟨h1, h2, rfl⟩⟩
      obtain ⟨k1, q1, q2, q3⟩ := red k x hk hb1
      obtain ⟨k2, r1, r2, r3⟩ := red k' x' hk' hb2
      have := hM.apart k1 k2 x x' bl q1 r1 q2 r2
      rcases q3 with ⟨rfl, rfl⟩ | ⟨h1, h2, rfl⟩ <;> rcases r3 with ⟨rfl, rfl⟩ | ⟨h3, h4, rfl⟩
      · rfl
      · exact absurd this.symm h4
      · exact absurd this h2
      · exact this
    · intro k x bl hk hbk
      by_cases h1 : k = b
      · subst h1
        simp only [if_true] at hk; cases hk
        simp only [hmb] at hbk
        exact hM.mine a v bl hX (by rw [ha]; exact hbk)
      · simp only [if_neg h1] at hk
        by_cases h2 : k = a
        · subst h2; simp only [hma, hblk] at hbk; cases hbk
        · simp only [hmo k h1 h2] at hbk; exact hM.mine k x bl hk hbk
    · intro k x hk
      by_cases h1 : k = b
      · subst h1; simp only [if_true] at hk; cases hk; exact hM.cell a v hX
      · simp only [if_neg h1] at hk; exact hM.cell k x hk
    · intro k x hk
      exact e1 k x (hM.old k x hk)
    · intro t htn
      simp only [upd]
      split
      · rename_i hti
        subst hti
        have := ht t htn
        rw [hs, V.Is, hX] at this
        rw [V.Is]; simp only [if_true]; exact this
      · exact V.Is.mono (Gle.refl _) (fun k x hk => e1 k x hk) _ _ (ht t htn)
theorem d_mv {c : Code} (i a b : Nat) {es : List (List T)} {e : TypeId} {md : Bool} (hs : s i = .ar a) (ha : m a = .arr es e md) (hb : isNo (m b) = true) (h : DWP P os n c K ⟨upd s i (.ar b), upd (upd m a .dead) b (.arr es e md)⟩) : DWP P os n c K ⟨s, m⟩ := d_weak (fun _ => weak_mv hs ha hb) h
theorem awp_mv {C : Cx} {c : Code} {Q : Exit → St → Prop} (i a b : Nat) {es : List (List T)} {e : TypeId} {md : Bool} (hs : s i = .ar a) (ha : m a = .arr es e md) (hb : isNo (m b) = true) (h : AWP P C n c Q ⟨upd s i (.ar b), upd (upd m a .dead) b (.arr es e md)⟩) : AWP P C n c Q ⟨s, m⟩ := awp_weak (weak_mv hs ha hb) h
end
end Go.Abs
namespace Go.Abs
section
variable {P : Program} {n : Nat}
variable {ops : Array Oper} {KK : List (Nat × Oper × Ev) → St → Prop} {r : List (Oper × Nat)} {acc : List (Nat × Oper × Ev)} {s : Nat → V} {m : Nat → Ob} {d ix : Nat} {ty : _} {pos : _} {after : _} {g : _}
/-- A call that takes over an array and hands back an array. -/
theorem r_take {op : Op} {c : Call} {fop : Operand} {f : FuncId} {caps : List V} {cargs avs : List V} {m1 : Nat → Ob} {es es' : List (List T)} {e e' : TypeId} {md md' : Bool} (k0 k1 : Nat) (ks : List Nat) (hg : guardOf n ops ⟨some d, op, ty, pos, after, g⟩ ⟨s, m⟩ = some true) (ho : op = .call c) (hc : c.callee = .value fop) (hf : ev n s fop = .fn f caps) (hav : c.args.toList.map (ev n s) ++ caps = avs) {u : List (Nat × Ob)} (hu : fzU m ks = u) (hm1 : app m u = m1)
    (hAC : AC P f cargs (objs [(0, .arr es e md)]) (.ar 1) (objs [(0, .dead), (1, .arr es' e' md')])) (hk : m1 k0 = .arr es e md) (hk1 : isNo (m1 k1) = true) (hkk : k0 ≠ k1)
    (hp : PassL m1 (fun i => if i = 0 then k0 else if i = 1 then k1 else i) ks (objs [(0, .arr es e md)]) avs cargs) {fp : List Nat} (hfp : fpOf 0 (ev n s) op ++ ks ++ [k0, k1] = fp) (hr : Run P n ops KK r ((ix, ⟨some d, op, ty, pos, after, g⟩, ⟨.ar k1, u ++ [(k0, .dead), (k1, .arr es' e' md')], fp⟩) :: acc) ⟨upd s d (.ar k1), upd (upd m1 k0 .dead) k1 (.arr es' e' md')⟩) : Run P n ops KK ((⟨some d, op, ty, pos, after, g⟩, ix) :: r) acc ⟨s, m⟩ := by
  subst hav; subst hu; subst hm1; subst hfp
  have hq : qOf [(0, k0), (1, k1)] = fun i => if i = 0 then k0 else if i = 1 then k1 else i := by funext i; simp [qOf]
  have hdom : ∀ k, objs [(0, Ob.arr es e md)] k ≠ .no → k = 0 := by
    intro i hne
    rw [objs_cons, objs_nil] at hne
    by_cases hi : i = 0
    · exact hi
    · rw [if_neg hi] at hne; exact absurd rfl hne
  have hdom' : ∀ k, objs [(0, Ob.dead), (1, Ob.arr es' e' md')] k ≠ .no → k = 0 ∨ k = 1 := by
    intro i hne
    rw [objs_cons, objs_cons, objs_nil] at hne
    by_cases hi : i = 0
    · exact .inl hi
    · by_cases hi1 : i = 1
      · exact .inr hi1
      · rw [if_neg hi, if_neg hi1] at hne; exact absurd rfl hne
  have hlv : leave (objs [(0, Ob.dead), (1, Ob.arr es' e' md')]) (qOf [(0, k0), (1, k1)]) [(0, k0), (1, k1)] = [(k0, .dead), (k1, .arr es' e' md')] := by
    simp [leave, objs, Ob.ren]
  have hrv : (V.ar 1).ren (qOf [(0, k0), (1, k1)]) = .ar k1 := by simp [V.ren, qOf]
  refine run_call hg ks [(0, k0), (1, k1)] ho hc hf hAC (by simp) (by simp [hkk]) (by rw [hq]; exact hp) (fun i hne => by simp [hdom i hne]) (fun i hne => by rcases hdom' i hne with rfl | rfl <;> simp) ?_ ?_ ?_
  · intro p hp' hne
    have h0 := hdom _ hne
    simp at hp'
    rcases hp' with rfl | rfl
    · exact ⟨by rw [hk]; simp [objs, Ob.ren], fun i hii => by simp [objs, Ob.ids] at hii⟩
    · simp at h0
  · intro p hp' hno
    simp at hp'
    rcases hp' with rfl | rfl
    · simp [objs] at hno
    · exact ⟨isNo_eq hk1, by simp [objs]⟩
  · rw [hlv, hrv]
    have ha : ∀ u m, app m (u ++ [(k0, Ob.dead), (k1, .arr es' e' md')]) = upd (upd (app m u) k0 .dead) k1 (.arr es' e' md') := fun u m => by rw [app_append]; rfl
    simp only [St.put, ha, List.map_cons, List.map_nil] at hr ⊢
    exact hr
theorem pass_ar {m1 : Nat → Ob} {q : Nat → Nat} {k0 : Nat} {ks : List Nat} {o : Ob} (hq : q 0 = k0) (hn : isNo o = false) : Pass m1 q ks (objs [(0, o)]) (.ar k0) (.ar 0) := .inl ⟨by simp [V.ren, hq], by
  intro i hi
  simp [V.ids] at hi; subst hi
  rw [objs_cons, if_pos rfl]
  intro e; rw [e] at hn; cases hn⟩
/-- A call that is handed pure values and hands back a new array. -/
theorem r_newAr {op : Op} {c : Call} {fop : Operand} {f : FuncId} {caps : List V} {cargs avs : List V} {m1 : Nat → Ob} {es' : List (List T)} {e' : TypeId} {md' : Bool} (k1 : Nat) (ks : List Nat) (hg : guardOf n ops ⟨some d, op, ty, pos, after, g⟩ ⟨s, m⟩ = some true) (ho : op = .call c) (hc : c.callee = .value fop) (hf : ev n s fop = .fn f caps) (hav : c.args.toList.map (ev n s) ++ caps = avs) {u : List (Nat × Ob)} (hu : fzU m ks = u) (hm1 : app m u = m1)
    (hAC : AC P f cargs noOb (.ar 1) (objs [(1, .arr es' e' md')])) (hk1 : isNo (m1 k1) = true)
    (hp : PassL m1 (fun i => if i = 1 then k1 else i) ks noOb avs cargs) {fp : List Nat} (hfp : fpOf 0 (ev n s) op ++ ks ++ [k1] = fp) (hr : Run P n ops KK r ((ix, ⟨some d, op, ty, pos, after, g⟩, ⟨.ar k1, u ++ [(k1, .arr es' e' md')], fp⟩) :: acc) ⟨upd s d (.ar k1), upd m1 k1 (.arr es' e' md')⟩) : Run P n ops KK ((⟨some d, op, ty, pos, after, g⟩, ix) :: r) acc ⟨s, m⟩ := by
  subst hav; subst hu; subst hm1; subst hfp
  have hq : qOf [(1, k1)] = fun i => if i = 1 then k1 else i := by funext i; simp [qOf]
  have hdom' : ∀ k, objs [(1, Ob.arr es' e' md')] k ≠ .no → k = 1 := by
    intro i hne
    rw [objs_cons, objs_nil] at hne
    by_cases hi : i = 1
    · exact hi
    · rw [if_neg hi] at hne; exact absurd rfl hne
  have hlv : leave (objs [(1, Ob.arr es' e' md')]) (qOf [(1, k1)]) [(1, k1)] = [(k1, .arr es' e' md')] := by simp [leave, objs, Ob.ren]
  have hrv : (V.ar 1).ren (qOf [(1, k1)]) = .ar k1 := by simp [V.ren, qOf]
  refine run_call hg ks [(1, k1)] ho hc hf hAC (by simp) (by simp) (by rw [hq]; exact hp) (fun i hne => absurd rfl hne) (fun i hne => by simp [hdom' i hne]) ?_ ?_ ?_
  · intro p hp' hne
    exact absurd rfl hne
  · intro p hp' hno
    simp at hp'; subst hp'
    exact ⟨isNo_eq hk1, by simp [objs]⟩
  · rw [hlv, hrv]
    have ha : ∀ u m, app m (u ++ [(k1, Ob.arr es' e' md')]) = upd (app m u) k1 (.arr es' e' md') := fun u m => by rw [app_append]; rfl
    simp only [St.put, ha, List.map_cons, List.map_nil] at hr ⊢
    exact hr
end
end Go.Abs
namespace Go.Abs
section
variable {P : Program} {C : Cx} {n : Nat} {os : Nat → Ob} {K : Exit → St → Prop} {s : Nat → V} {m : Nat → Ob}
theorem Mem.less {w : World} {G : Im} {X : Xm} (h : Mem P C m w G X) (k : Nat) (o' : Ob) (hok : ∀ x, X k = some x → Ob.Ok P G X w (m k) x → Ob.Ok P G X w o' x) (hblk : ∀ x b, o'.blk x = some b → (m k).blk x = some b) (hno : o' = .no ↔ m k = .no) : Mem P C (upd m k o') w G X := by
  have hb : ∀ j x b, (upd m k o' j).blk x = some b → (m j).blk x = some b := fun j x b hj => by
    by_cases h1 : j = k
    · subst h1; rw [upd_same] at hj; exact hblk x b hj
    · rwa [upd_ne _ _ _ h1] at hj
  refine ⟨h.gle, h.gold, h.gok, h.keeps, ?_, ?_, fun j j' x x' b hx hx' h1 h2 => h.apart j j' x x' b hx hx' (hb j x b h1) (hb j' x' b h2), fun j x b hx h1 => h.mine j x b hx (hb j x b h1), h.cell, h.old⟩
  · intro j x hx
    by_cases h1 : j = k
    · subst h1; rw [upd_same]; exact hok x hx (h.ob j x hx)
    · rw [upd_ne _ _ _ h1]; exact h.ob j x hx
  · intro j
    by_cases h1 : j = k
    · subst h1; rw [upd_same, hno]; exact h.free j
    · rw [upd_ne _ _ _ h1]; exact h.free j
/-- Of an object nothing is claimed any more. -/
theorem weak_kill {k : Nat} (hk : isNo (m k) = false) : Weak P C n ⟨s, m⟩ ⟨s, upd m k .dead⟩ := by
  rintro x w ⟨G, X, hM, hd, hsz, ht⟩
  have hne : m k ≠ .no := fun h => by rw [h] at hk; cases hk
  have hb : ∀ (v : Value) (b : Nat), Ob.blk .dead v = some b → (m k).blk v = some b := fun v b hb => by cases v <;> simp [Ob.blk] at hb
  exact ⟨G, X, Mem.less hM k .dead (fun _ _ _ => trivial) hb ⟨fun h => (by cases h), fun h => absurd h hne⟩, hd, hsz, ht⟩
/-- An own array that from now on grows only. -/
theorem weak_frz {k : Nat} {es : List (List T)} {e : TypeId} (hm : m k = .arr es e true) : Weak P C n ⟨s, m⟩ ⟨s, upd m k (.arr es e false)⟩ := by
  rintro x w ⟨G, X, hM, hd, hsz, ht⟩
  replace hM : Mem P C m w G X := hM
  cases hX : X k with
  | none => rw [(hM.free k).1 hX] at hm; cases hm
  | some v =>
    obtain ⟨G', hG, hM'⟩ := hM.freeze hm hX
    exact ⟨G', X, hM', hd, hsz, fun t htn => V.Is.mono hG (Xle.refl X) _ _ (ht t htn)⟩
theorem awp_kill {c : Code} {Q : Exit → St → Prop} (k : Nat) (hk : isNo (m k) = false) (h : AWP P C n c Q ⟨s, upd m k .dead⟩) : AWP P C n c Q ⟨s, m⟩ := awp_weak (weak_kill hk) h
theorem d_kill {c : Code} (k : Nat) (hk : isNo (m k) = false) (h : DWP P os n c K ⟨s, upd m k .dead⟩) : DWP P os n c K ⟨s, m⟩ := d_weak (fun _ => weak_kill hk) h
theorem awp_frz {c : Code} {Q : Exit → St → Prop} (k : Nat) {es : List (List T)} {e : TypeId} (hm : m k = .arr es e true) (h : AWP P C n c Q ⟨s, upd m k (.arr es e false)⟩) : AWP P C n c Q ⟨s, m⟩ := awp_weak (weak_frz hm) h
theorem d_frz {c : Code} (k : Nat) {es : List (List T)} {e : TypeId} (hm : m k = .arr es e true) (h : DWP P os n c K ⟨s, upd m k (.arr es e false)⟩) : DWP P os n c K ⟨s, m⟩ := d_weak (fun _ => weak_frz hm) h
end
end Go.Abs
namespace Go.Abs
theorem fzU_skip {m : Nat → Ob} {k : Nat} {ks : List Nat} {es : List (List T)} {e : TypeId} {u : List (Nat × Ob)} (h : m k = .arr es e false) (h2 : fzU m ks = u) : fzU m (k :: ks) = u := by
  rw [fzU, h]; exact h2
end Go.Abs
namespace Go.Abs
/-- An array that each round of a loop hands to a call and gets back anew: its names. -/
def vTk : Nat → V
  | 0 => .ar 5000
  | _ + 1 => .ar 5001
def oTk0 (es : List (List T)) (e : TypeId) : Nat → Ob
  | 0 => .arr es e false
  | _ + 1 => .dead
def oTk1 (es : List (List T)) (e : TypeId) : Nat → Ob
  | 0 => .no
  | _ + 1 => .arr es e false
end Go.Abs
namespace Go.Abs
def oAcf (es : List (List T)) (e : TypeId) : Ob := bif es.isEmpty then .no else .arr es e false
theorem oAcf_nil {es : List (List T)} {e : TypeId} (h : es = []) : oAcf es e = .no := by subst h; rfl
theorem oAcf_pos {es : List (List T)} {e : TypeId} (h : es ≠ []) : oAcf es e = .arr es e false := by cases es <;> simp_all [oAcf]
theorem objs_no (j : Nat) : objs [(j, Ob.no)] = noOb := by funext k; rw [objs_cons, objs_nil]; split <;> rfl
end Go.Abs
namespace Go.Abs
section
variable {P : Program} {n : Nat}
variable {ops : Array Oper} {KK : List (Nat × Oper × Ev) → St → Prop} {r : List (Oper × Nat)} {acc : List (Nat × Oper × Ev)} {s : Nat → V} {m : Nat → Ob} {d ix : Nat} {ty : _} {pos : _} {after : _} {g : _}
/-- A call that is handed pure values and hands back some new objects (D: callee's name, ours). -/
theorem r_news {op : Op} {c : Call} {fop : Operand} {f : FuncId} {caps : List V} {cargs avs : List V} {m1 m2 : Nat → Ob} {rv rv' : V} {os' : List (Nat × Ob)} (D : List (Nat × Nat)) (ks : List Nat) (hg : guardOf n ops ⟨some d, op, ty, pos, after, g⟩ ⟨s, m⟩ = some true) (ho : op = .call c) (hc : c.callee = .value fop) (hf : ev n s fop = .fn f caps) (hav : c.args.toList.map (ev n s) ++ caps = avs) {u : List (Nat × Ob)} (hu : fzU m ks = u) (hm1 : app m u = m1)
    (hAC : AC P f cargs noOb rv (objs os')) (hD : os'.map (·.1) = D.map (·.1)) (hD1 : (D.map (·.1)).Nodup) (hD2 : (D.map (·.2)).Nodup) (hno : ∀ p ∈ D, isNo (m1 p.2) = true) (hno' : ∀ p ∈ D, objs os' p.1 ≠ .no)
    (hp : PassL m1 (qOf D) ks noOb avs cargs) (hrv : rv.ren (qOf D) = rv') {lv : List (Nat × Ob)} (hlv : leave (objs os') (qOf D) D = lv) (hm2 : app m1 lv = m2) {fp : List Nat} (hfp : fpOf 0 (ev n s) op ++ ks ++ D.map (·.2) = fp) (hr : Run P n ops KK r ((ix, ⟨some d, op, ty, pos, after, g⟩, ⟨rv', u ++ lv, fp⟩) :: acc) ⟨upd s d rv', m2⟩) : Run P n ops KK ((⟨some d, op, ty, pos, after, g⟩, ix) :: r) acc ⟨s, m⟩ := by
  subst hav; subst hu; subst hm1; subst hfp; subst hrv; subst hlv; subst hm2
  have hdom' : ∀ (l : List (Nat × Ob)) (i : Nat), objs l i ≠ .no → i ∈ l.map (·.1) := by
    intro l
    induction l with
    | nil => intro i h; exact absurd rfl h
    | cons p l ih =>
      intro i h
      obtain ⟨j, o⟩ := p
      rw [objs_cons] at h
      by_cases hij : i = j
      · simp [hij]
      · rw [if_neg hij] at h; simp only [List.map_cons, List.mem_cons]; exact .inr (ih i h)
  refine run_call hg ks D ho hc hf hAC hD1 hD2 hp (fun i hne => absurd rfl hne) (fun i hne => by rw [← hD]; exact hdom' _ i hne) (fun p hp' hne => absurd rfl hne) (fun p hp' _ => ⟨isNo_eq (hno p hp'), hno' p hp'⟩) ?_
  simp only [St.put, app_append] at hr ⊢
  exact hr
end
end Go.Abs
namespace Go.Abs
theorem objs_drop (a : Nat) (o : Ob) (j : Nat) : objs [(a, o), (j, Ob.no)] = objs [(a, o)] := by
  funext k; rw [objs_cons, objs_cons, objs_cons, objs_nil]; split
  · rfl
  · split <;> rfl
end Go.Abs
