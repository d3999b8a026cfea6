/- The effect of each operation on the values and the memory of a function: what it answers and which objects it turns. -/
import Derived.Test.YtgicgbokgmmgdaaAbsD
set_option linter.unusedSimpArgs false
set_option linter.unusedVariables false
namespace Go.Abs

/-- Several objects are set, one after the other. -/
def app (m : Nat → Ob) : List (Nat × Ob) → Nat → Ob
  | [] => m
  | (k, o) :: r => app (upd m k o) r

theorem app_append (m : Nat → Ob) (a b : List (Nat × Ob)) : app m (a ++ b) = app (app m a) b := by
  induction a generalizing m with
  | nil => rfl
  | cons x r ih => obtain ⟨k, o⟩ := x; exact ih _

/-! ### sharing -/
def toT (m : Nat → Ob) : V → Option T
  | .t x => some x
  | .nl => some (.sl [])
  | .sn _ x => some x
  | .ar k => match m k with
    | .arr es _ _ => some (.sl es)
    | .ro es => some (.sl es)
    | _ => none
  | _ => none
def toTs (m : Nat → Ob) : List V → Option (List T)
  | [] => some []
  | v :: vs => match toT m v, toTs m vs with
    | some t, some ts => some (t :: ts)
    | _, _ => none
def fz : V → List Nat
  | .ar k => [k]
  | _ => []
def fzU (m : Nat → Ob) : List Nat → List (Nat × Ob)
  | [] => []
  | k :: ks => match m k with
    | .arr es e true => (k, .arr es e false) :: fzU (upd m k (.arr es e false)) ks
    | _ => fzU m ks

section
variable {P : Program} {C : Cx} {w : World} {X : Xm}

def unmut (m : Nat → Ob) (k : Nat) : Prop := ∀ es e, m k ≠ .arr es e true

theorem toT_upd (m : Nat → Ob) (k : Nat) (es : List (List T)) (e : TypeId) (hm : m k = .arr es e true) (v : V) : toT (upd m k (.arr es e false)) v = toT m v := by
  cases v <;> simp [toT]
  rename_i j
  by_cases hj : j = k
  · subst hj; rw [upd_same, hm]
  · rw [upd_ne _ _ _ hj]

theorem toT_fz (v : V) : ∀ (ks : List Nat) (m : Nat → Ob), toT (app m (fzU m ks)) v = toT m v
  | [], m => rfl
  | k :: ks, m => by
    unfold fzU
    split
    · rename_i es e hm
      rw [app, toT_fz v ks, toT_upd m k es e hm]
    · exact toT_fz v ks m

theorem toTs_fz (ks : List Nat) (m : Nat → Ob) : ∀ (vs : List V), toTs (app m (fzU m ks)) vs = toTs m vs
  | [] => rfl
  | v :: vs => by simp only [toTs, toT_fz, toTs_fz ks m vs]

theorem unmut_fzU : ∀ (ks : List Nat) (m : Nat → Ob) (k : Nat), (unmut m k ∨ k ∈ ks) → unmut (app m (fzU m ks)) k
  | [], m, k, h => h.resolve_right (by simp)
  | j :: ks, m, k, h => by
    unfold fzU
    split
    · rename_i es e hm
      rw [app]
      refine unmut_fzU ks _ k ?_
      by_cases hk : k = j
      · subst hk; exact .inl (fun es' e' => by rw [upd_same]; simp)
      · rcases h with h | h
        · exact .inl (fun es' e' => by rw [upd_ne _ _ _ hk]; exact h es' e')
        · simp [hk] at h; exact .inr h
    · rename_i hm
      refine unmut_fzU ks m k ?_
      rcases h with h | h
      · exact .inl h
      · simp at h
        rcases h with rfl | h
        · exact .inl (fun es e he => hm es e he)
        · exact .inr h

theorem Mem.freezeL : ∀ (ks : List Nat) {m : Nat → Ob} {G : Im}, Mem P C m w G X → ∃ G', Gle G G' ∧ Mem P C (app m (fzU m ks)) w G' X
  | [], m, G, h => ⟨G, Gle.refl G, h⟩
  | k :: ks, m, G, h => by
    unfold fzU
    split
    · rename_i es e hm
      cases hx : X k with
      | none => rw [(h.free k).1 hx] at hm; cases hm
      | some x =>
        obtain ⟨G1, h1, h2⟩ := h.freeze hm hx
        obtain ⟨G2, h3, h4⟩ := Mem.freezeL ks h2
        exact ⟨G2, h1.trans h3, h4⟩
    · exact Mem.freezeL ks h

theorem toT_is {m : Nat → Ob} {G : Im} (h : Mem P C m w G X) {v : V} {t : T} {x : Value} (hv : toT m v = some t) (hu : ∀ k ∈ fz v, unmut m k) (hi : V.Is G X v x) : T.Is G t x := by
  cases v <;> simp [toT] at hv
  · subst hv; rwa [V.Is] at hi
  · subst hv; rw [V.Is] at hi; subst hi; rw [T.Is]; exact ⟨none, 0, 0, rfl, Nat.le_refl _, Nat.zero_le _, .inl rfl⟩
  · rename_i k
    rw [V.Is] at hi
    have ho := h.ob k x hi
    cases hm : m k <;> rw [hm] at hv ho <;> simp at hv
    · rename_i es e md
      subst hv
      cases md with
      | true => exact absurd hm (hu k (by simp [fz]) es e)
      | false => exact ho.is
    · subst hv; exact ho
  · subst hv; rw [V.Is] at hi; exact hi.1

theorem toTs_is {m : Nat → Ob} {G : Im} (h : Mem P C m w G X) : ∀ {vs : List V} {ts : List T} {xs : List Value}, toTs m vs = some ts → (∀ k ∈ vs.flatMap fz, unmut m k) → V.IsL G X vs xs → ts.length = xs.length ∧ T.Cells G ts xs
  | [], ts, xs, hv, _, hi => by simp [toTs] at hv; subst hv; rw [V.IsL] at hi; subst hi; exact ⟨rfl, trivial⟩
  | v :: vs, ts, xs, hv, hu, hi => by
    rw [V.IsL] at hi
    obtain ⟨y, ys, rfl, h1, h2⟩ := hi
    unfold toTs at hv
    cases ht : toT m v with
    | none => rw [ht] at hv; simp at hv
    | some t =>
      cases hts : toTs m vs with
      | none => rw [ht, hts] at hv; simp at hv
      | some ts' =>
        rw [ht, hts] at hv; simp at hv; subst hv
        obtain ⟨h3, h4⟩ := toTs_is h hts (fun k hk => hu k (by simp; right; simpa using hk)) h2
        refine ⟨by simp [h3], ?_⟩
        rw [T.Cells]
        exact ⟨⟨y, rfl, toT_is h ht (fun k hk => hu k (by simp; left; exact hk)) h1⟩, by simpa using h4⟩
end

/-! ### the operations -/
/-- What an operation leaves: it answers y; the memory turns as the list says. -/
def Did (P : Program) (C : Cx) (m : Nat → Ob) (G : Im) (X : Xm) (r : Result Next) (v : V) (ups : List (Nat × Ob)) : Prop :=
  ∃ n y w' G' X', r = .ok n w' ∧ (n = .value y ∨ (n = .skip ∧ y = undef)) ∧ Gle G G' ∧ Xle X X' ∧ Mem P C (app m ups) w' G' X' ∧ V.Is G' X' v y

def zS : Value → Option V
  | .slice none 0 0 => some .nl
  | .int k n => some (.t (.sc (.int k n)))
  | .string s => some (.t (.sc (.str s)))
  | .bool b => some (.t (.sc (.bool b)))
  | .pointer none => some (.t (.sc .nip))
  | .nilIface => some (.t (.sc .nii))
  | .nilFunc => some (.t (.sc .nif))
  | .map none => some (.t (.sc .nim))
  | _ => none
theorem zS_is (G : Im) (X : Xm) {v : Value} {u : V} (h : zS v = some u) : V.Is G X u v := by
  unfold zS at h
  split at h <;> simp at h <;> subst h <;> simp [V.Is, T.Is, S.v]
def zSs : List Value → Option (List V)
  | [] => some []
  | v :: vs => match zS v, zSs vs with
    | some a, some b => some (a :: b)
    | _, _ => none
theorem zSs_is (G : Im) (X : Xm) : ∀ {vs : List Value} {us : List V}, zSs vs = some us → V.IsL G X us vs
  | [], us, h => by simp [zSs] at h; subst h; rfl
  | v :: vs, us, h => by
    unfold zSs at h
    cases h1 : zS v with
    | none => rw [h1] at h; simp at h
    | some a =>
      cases h2 : zSs vs with
      | none => rw [h1, h2] at h; simp at h
      | some b => rw [h1, h2] at h; simp at h; subst h; exact ⟨v, vs, rfl, zS_is G X h1, zSs_is G X h2⟩
/-- The cells of a type's zero value. -/
def zcells (P : Program) (t : TypeId) : Option (List V) := match (P.info? t).bind (·.zero) with
  | some z => zSs z.cells.toList
  | none => none
theorem zcells_run {P : Program} {t : TypeId} {us : List V} (h : zcells P t = some us) : ∃ z, (∀ w, (zeroValue t).run P w = .ok z w) ∧ ∀ G X, V.IsL G X us z.cells.toList := by
  unfold zcells at h
  cases hi : P.info? t with
  | none => rw [hi] at h; simp at h
  | some i =>
    cases hz : i.zero with
    | none => rw [hi] at h; simp [hz] at h
    | some z =>
      rw [hi] at h; simp [hz] at h
      exact ⟨z, fun w => by simp [zeroValue, typeInfo, hi, hz], fun G X => zSs_is G X h⟩

/-- Values that can be put into cells. -/
def boxable : V → Bool
  | .ag _ => true
  | v => v.one
theorem boxable_is {v : V} (h : boxable v = true) : v.one = true ∨ ∃ cs, v = .ag cs := by
  cases v <;> simp [boxable, V.one] at h ⊢

section ops
variable {P : Program} {C : Cx} {m : Nat → Ob} {w : World} {G : Im} {X : Xm}

theorem did_value (hM : Mem P C m w G X) {y : Value} {v : V} (hv : V.Is G X v y) : Did P C m G X (.ok (.value y) w) v [] :=
  ⟨_, y, w, G, X, rfl, .inl rfl, Gle.refl G, Xle.refl X, hM, hv⟩

theorem did_alloc (hM : Mem P C m w G X) {id : Nat} (hid : m id = .no) {t : TypeId} {zs : List V} (hz : zcells P t = some zs) {ρ : Operand → Value} {o : Oper} (ho : o.op = .alloc t) :
    Did P C m G X ((execOp ρ o).run P w) (.rf id 0) [(id, .box zs)] := by
  obtain ⟨z, hr, hl⟩ := zcells_run hz
  obtain ⟨h1, h2⟩ := hM.newBox hid z.cells t zs (hl G X)
  refine ⟨.value (.pointer (some ⟨w.heap.size, 0, none⟩)), _, _, G, _, ?_, .inl rfl, Gle.refl G, h2, h1, ?_⟩
  · simp [execOp, ho, Instr.alloc, hr, newVar, newRow]
  · rw [V.Is]; exact ⟨w.heap.size, upd_same _ _ _, rfl⟩

theorem did_box (hM : Mem P C m w G X) {id : Nat} (hid : m id = .no) {t : TypeId} {v : V} {ρ : Operand → Value} {o : Oper} {x : Operand} (ho : o.op = .box t x) (hv : V.Is G X v (ρ x)) (hb : boxable v = true) :
    Did P C m G X ((execOp ρ o).run P w) (.rf id 0) [(id, .box (vcells v))] := by
  have hl := vcells_is hv (boxable_is hb) (hM.cell)
  obtain ⟨h1, h2⟩ := hM.newBox hid (ρ x).cells t _ hl
  refine ⟨.value (.pointer (some ⟨w.heap.size, 0, none⟩)), _, _, G, _, ?_, .inl rfl, Gle.refl G, h2, h1, ?_⟩
  · simp [execOp, ho, Instr.box, newVar, newRow]
  · rw [V.Is]; exact ⟨w.heap.size, upd_same _ _ _, rfl⟩

theorem did_load (hM : Mem P C m w G X) {t : TypeId} {p v : V} {cells : List V} (hc : cellsAt m p = some cells) (ht : takeT P t cells = some v) {ρ : Operand → Value} {o : Oper} {x : Operand} (ho : o.op = .load t x) (hp : V.Is G X p (ρ x)) :
    Did P C m G X ((execOp ρ o).run P w) v [] := by
  obtain ⟨b, off, cur, e, fr, hx, hw, hat⟩ := cellsAt_is hM hc hp
  obtain ⟨y, hr, hi⟩ := run_load_is ht hw hat
  refine ⟨.value y, y, w, G, X, ?_, .inl rfl, Gle.refl G, Xle.refl X, hM, hi⟩
  simp [execOp, ho, hx, hr]

/-- Some cells are replaced. -/
def splice {α : Type} (cs : List α) (off : Nat) (vs : List α) : List α := cs.take off ++ vs ++ cs.drop (off + vs.length)

theorem splice_length {α : Type} (cs : List α) (off : Nat) (vs : List α) (h : off + vs.length ≤ cs.length) : (splice cs off vs).length = cs.length := by
  unfold splice; simp; omega

theorem splice_is {cs vs : List V} {xs ys : List Value} {off : Nat} (h1 : V.IsL G X cs xs) (h2 : V.IsL G X vs ys) (hl : off + vs.length ≤ cs.length) : V.IsL G X (splice cs off vs) (splice xs off ys) := by
  have e1 := h1.length
  have e2 := h2.length
  refine V.IsL.of_get (by rw [splice_length _ _ _ hl, splice_length _ _ _ (by omega), e1]) fun j v hv => ?_
  unfold splice at hv ⊢
  rw [List.append_assoc] at hv ⊢
  rw [List.getElem?_append] at hv ⊢
  simp only [List.length_take] at hv ⊢
  by_cases hj : j < min off cs.length
  · rw [if_pos hj] at hv; rw [if_pos (by omega)]
    rw [List.getElem?_take] at hv ⊢
    split at hv
    · rename_i hj2; rw [if_pos hj2]; exact h1.get j v hv
    · cases hv
  · rw [if_neg hj] at hv; rw [if_neg (by omega)]
    rw [List.getElem?_append] at hv ⊢
    by_cases hj2 : j - min off cs.length < vs.length
    · rw [if_pos hj2] at hv; rw [if_pos (by omega)]
      rw [show min off xs.length = min off cs.length by omega]
      exact h2.get _ v hv
    · rw [if_neg hj2] at hv; rw [if_neg (by omega)]
      rw [List.getElem?_drop] at hv ⊢
      rw [show off + ys.length + (j - min off xs.length - ys.length) = off + vs.length + (j - min off cs.length - vs.length) by omega]
      exact h1.get _ v hv

theorem run_storeAt {t : TypeId} {b off n : Nat} {x : Value} {cur : Array Value} {e : TypeId} (hs : szOf P t = some n) (hx : x.cells.size = n) (h1 : ∀ c ∈ x.cells.toList, c.oneCell' = true)
    (hw : w.heap[b]? = some (.cells cur e (0, 0))) (hfit : off + n ≤ cur.size) :
    (Instr.storeAt t (.pointer (some ⟨b, off, none⟩)) x).run P w = .ok () (w.setRow b (splice cur.toList off x.cells.toList).toArray) := by
  have hst := run_storeCells_at P b off e x.cells.toList 0 cur w hw (by simp [hx]; omega) h1
  simp only [Nat.add_zero] at hst
  simp [Instr.storeAt, Instr.sureAddr, storeVar, run_size hs, hx, hst, splice]

def oneAll : List V → Bool
  | [] => true
  | v :: vs => v.one && oneAll vs
theorem oneAll_is : ∀ {vs : List V} {xs : List Value}, oneAll vs = true → V.IsL G X vs xs → (∀ k y, X k = some y → y.oneCell' = true) → ∀ c ∈ xs, c.oneCell' = true
  | [], xs, _, h, _, c, hc => by rw [V.IsL] at h; subst h; simp at hc
  | v :: vs, xs, ho, h, hX, c, hc => by
    rw [V.IsL] at h
    obtain ⟨y, ys, rfl, h1, h2⟩ := h
    simp [oneAll] at ho
    simp at hc
    rcases hc with rfl | hc
    · exact h1.one ho.1 hX
    · exact oneAll_is ho.2 h2 hX c hc

/-- A store into a box. -/
theorem did_store_box (hM : Mem P C m w G X) {t : TypeId} {k off : Nat} {v : V} {cs : List V} (hm : m k = .box cs) {ρ : Operand → Value} {o : Oper} {p x : Operand} (ho : o.op = .store t p x)
    (hp : V.Is G X (.rf k off) (ρ p)) (hv : V.Is G X v (ρ x)) (hone : oneAll (vcells v) = true) (hsz : szOf P t = some (vcells v).length) (hfit : off + (vcells v).length ≤ cs.length) :
    Did P C m G X ((execOp ρ o).run P w) .jk [(k, .box (splice cs off (vcells v)))] := by
  have hbx : v.one = true ∨ ∃ cs, v = .ag cs := by
    cases v <;> simp [vcells, oneAll, V.one] at hone ⊢
  have hl := vcells_is hv hbx hM.cell
  rw [V.Is] at hp
  obtain ⟨b, hX, hpx⟩ := hp
  have hob := hM.ob k _ hX
  rw [hm] at hob
  obtain ⟨b', cur, e, hb, hw, hcs, hG⟩ := hob
  simp at hb; subst hb
  have hlen := hl.length
  have hcl := hcs.length
  have hrun := run_storeAt (w := w) (x := ρ x) (b := b) (off := off) hsz (by simpa using hlen) (oneAll_is hone hl hM.cell) hw (by simp at hcl; omega)
  have hnew := splice_is (off := off) hcs hl hfit
  refine ⟨.skip, undef, _, G, X, by simp [execOp, ho, hpx, hrun]; rfl, .inr ⟨rfl, rfl⟩, Gle.refl G, Xle.refl X, ?_, trivial⟩
  refine hM.rewrite hX (by rw [hm]; rfl) hG _ _ (by simp) (fun b' hb' => by simpa [Ob.blk] using hb'.symm) ?_
  exact ⟨b, _, e, rfl, setRow_heap w b cur _ e _ hw, by simpa using hnew, hG⟩
end ops
end Go.Abs
