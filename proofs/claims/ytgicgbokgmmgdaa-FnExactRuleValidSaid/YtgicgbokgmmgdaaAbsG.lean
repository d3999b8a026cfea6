/- The effect of append, make, composite literals, slicing and conversions. -/
import Derived.Test.YtgicgbokgmmgdaaAbsF
set_option linter.unusedSimpArgs false
set_option linter.unusedVariables false
namespace Go.Abs

section ops
variable {P : Program} {C : Cx} {m : Nat → Ob} {w : World} {G : Im} {X : Xm}

/-- Of a slice type: its element's type, and the bytes and cells of an element. -/
def apOf (P : Program) (t : TypeId) : Option (TypeId × Nat × Nat) :=
  match P.underlying t with
  | some (.slice e) => match P.info? e with
    | some i => match i.zero with
      | some z => if z.cells.size = i.size ∧ 0 < i.bytes ∧ 0 < i.size then some (e, i.bytes, i.size) else none
      | none => none
    | none => none
  | _ => none
theorem apOf_spec {t e : TypeId} {by' sz : Nat} (h : apOf P t = some (e, by', sz)) : ∃ i z, P.underlying t = some (.slice e) ∧ P.info? e = some i ∧ i.zero = some z ∧ z.cells.size = i.size ∧ i.bytes = by' ∧ i.size = sz ∧ 0 < by' ∧ 0 < sz := by
  unfold apOf at h
  split at h
  · rename_i e' hu
    split at h
    · rename_i i hi
      split at h
      · rename_i z hz
        split at h
        · rename_i hc; simp at h; obtain ⟨rfl, rfl, rfl⟩ := h; exact ⟨i, z, hu, hi, hz, hc.1, rfl, rfl, hc.2.1, hc.2.2⟩
        · cases h
      · cases h
    · cases h
  · cases h

/-- The nil slice as an array of the function's own. -/
theorem Mem.newNil (h : Mem P C m w G X) {id : Nat} (hid : m id = .no) {e : TypeId} {i : TypeInfo} (hi : P.info? e = some i) :
    Mem P C (upd m id (.arr [] e true)) w G (upd X id (some (.slice none 0 0))) ∧ Xle X (upd X id (some (.slice none 0 0))) := by
  have hX : X id = none := (h.free id).2 hid
  refine ⟨⟨h.gle, h.gold, h.gok, h.keeps, ?_, ?_, ?_, ?_, ?_, fun k y hk => Xle_upd hX k y (h.old k y hk)⟩, Xle_upd hX⟩
  · intro k y hy
    by_cases hk : k = id
    · subst hk; rw [upd_same] at hy ⊢; cases hy
      exact ⟨[], i, hi, World.ownsRow_nil w 0 e i.size, by rw [T.Rows]; trivial, fun a n c ha => by simp at ha⟩
    · rw [upd_ne _ _ _ hk] at hy ⊢
      exact (h.ob k y hy).mono (Gle.refl G) (Xle_upd hX) (fun _ _ => rfl) (fun _ _ => rfl)
  · intro k
    by_cases hk : k = id
    · subst hk; rw [upd_same, upd_same]; simp
    · rw [upd_ne _ _ _ hk, upd_ne _ _ _ hk]; exact h.free k
  · have f : ∀ k y b, upd X id (some (.slice none 0 0)) k = some y → (upd m id (.arr [] e true) k).blk y = some b → X k = some y ∧ (m k).blk y = some b := by
      intro k y b hy hb
      by_cases hk : k = id
      · subst hk; rw [upd_same] at hy hb; cases hy; simp [Ob.blk] at hb
      · rw [upd_ne _ _ _ hk] at hy hb; exact ⟨hy, hb⟩
    intro k k' y y' b hy hy' hb1 hb2
    obtain ⟨a1, a2⟩ := f k y b hy hb1
    obtain ⟨b1, b2⟩ := f k' y' b hy' hb2
    exact h.apart k k' y y' b a1 b1 a2 b2
  · intro k y b hy hb1
    by_cases hk : k = id
    · subst hk; rw [upd_same] at hy hb1; cases hy; simp [Ob.blk] at hb1
    · rw [upd_ne _ _ _ hk] at hy hb1; exact h.mine k y b hy hb1
  · intro k y hy
    by_cases hk : k = id
    · subst hk; rw [upd_same] at hy; cases hy; rfl
    · rw [upd_ne _ _ _ hk] at hy; exact h.cell k y hy

/-- The cells of a slice that is read. -/
theorem slice_cells (hG : Gok G w) {fs : List (List T)} {x : Value} (h : T.Is G (.sl fs) x) {sz : Nat} (hsz : ∀ r ∈ fs, r.length = sz) : ∃ B c news, x = .slice B fs.length c ∧ news.length = fs.length * sz ∧ T.Rows G sz fs news ∧
    (fs.length = 0 ∨ ∃ a, B = some a ∧ ∀ j u, news[j]? = some u → w.cell? (a.add j) = some u) ∧ ∀ u ∈ news, u.oneCell' = true := by
  rw [T.Is] at h
  obtain ⟨A, c, sz', hx, hc, _, hr⟩ := h
  rcases hr with rfl | ⟨b, off, cs, rfl, hg, hrows⟩
  · exact ⟨A, c, [], hx, by simp, by rw [T.Rows]; trivial, .inl rfl, by simp⟩
  · rcases Nat.eq_zero_or_pos fs.length with h0 | hpos
    · have : fs = [] := List.eq_nil_of_length_eq_zero h0
      subst this
      exact ⟨_, c, [], hx, by simp, by rw [T.Rows]; trivial, .inl rfl, by simp⟩
    · have hss : sz' = sz := by
        obtain ⟨h1, _⟩ := hrows.get 0 fs[0] (List.getElem?_eq_getElem hpos)
        rw [← h1]; exact hsz _ (List.getElem_mem hpos)
      subst hss
      obtain ⟨cur, e, fr, hw, rest, hrest⟩ := hG b cs hg
      -- the row of the last element tells that the cells are there
      have hcell : ∀ p, p < fs.length * sz' → ∃ t y, (fs[p / sz']?).bind (·[p % sz']?) = some t ∧ (cs.drop off)[p]? = some y ∧ T.Is G t y := by
        intro p hp
        have hs0 : 0 < sz' := by rcases Nat.eq_zero_or_pos sz' with h | h; rw [h] at hp; omega; exact h
        have hd : p / sz' < fs.length := by rw [Nat.div_lt_iff_lt_mul hs0]; exact hp
        have hm : p % sz' < sz' := Nat.mod_lt _ hs0
        obtain ⟨h1, h2⟩ := hrows.get (p / sz') fs[p / sz'] (List.getElem?_eq_getElem hd)
        obtain ⟨y, hy, hi⟩ := h2.get (p % sz') (fs[p / sz'][p % sz']'(by omega)) (List.getElem?_eq_getElem (by omega))
        refine ⟨_, y, by rw [List.getElem?_eq_getElem hd, Option.bind_some, List.getElem?_eq_getElem (by omega)], ?_, hi⟩
        rw [List.getElem?_drop] at hy
        rw [show p = p / sz' * sz' + p % sz' by rw [Nat.mul_comm]; exact (Nat.div_add_mod p sz').symm]; exact hy
      have hlen : fs.length * sz' ≤ (cs.drop off).length := by
        rcases Nat.lt_or_ge (cs.drop off).length (fs.length * sz') with hlt | hge
        · obtain ⟨t, y, _, hy, _⟩ := hcell _ hlt
          rw [List.getElem?_eq_none (Nat.le_refl _)] at hy; cases hy
        · exact hge
      refine ⟨_, c, (cs.drop off).take (fs.length * sz'), hx, by rw [List.length_take]; omega, ?_, .inr ⟨⟨b, off, none⟩, rfl, ?_⟩, ?_⟩
      · refine T.Rows.of_get fun i r hr => ?_
        obtain ⟨h1, h2⟩ := hrows.get i r hr
        have hi := (List.getElem?_eq_some_iff.1 hr).1
        have hmul : (i + 1) * sz' ≤ fs.length * sz' := Nat.mul_le_mul_right _ (by omega)
        rw [Nat.add_mul, Nat.one_mul] at hmul
        refine ⟨h1, T.Cells.of_get fun j t ht => ?_⟩
        have hj := (List.getElem?_eq_some_iff.1 ht).1
        obtain ⟨y, hy, hi2⟩ := h2.get j t ht
        refine ⟨y, ?_, hi2⟩
        rw [List.getElem?_drop] at hy ⊢
        rw [List.getElem?_take, if_pos (by omega)]; exact hy
      · intro j u hu
        rw [List.getElem?_take] at hu
        split at hu
        · rw [List.getElem?_drop] at hu
          rw [Addr.add_lit, cell_at hw, hrest]
          exact Sub.append cs rest _ _ hu
        · cases hu
      · intro u hu
        obtain ⟨p, hp⟩ := List.mem_iff_getElem?.1 hu
        rw [List.getElem?_take] at hp
        split at hp
        · rename_i hlt
          obtain ⟨t, y, _, hy, hi⟩ := hcell p hlt
          rw [hp] at hy; cases hy; exact hi.one
        · cases hp

theorem append_exec {ρ : Operand → Value} {o : Oper} {x y : Operand} {t : TypeId} (ho : o.op = .call { callee := .builtin .append, args := #[x, y], argTypes := #[t, t] }) {v' : Value} {w' : World}
    (h : (Builtin.append_ #[t, t] o.type #[ρ x, ρ y]).run P w = .ok v' w') : (execOp ρ o).run P w = .ok (.value v') w' := by
  simp [execOp, ho, resolve, invoke, builtin, h]

theorem did_append (hM : Mem P C m w G X) {id k : Nat} (hid : m id = .no) {t e : TypeId} {by' sz : Nat} (ht : apOf P t = some (e, by', sz)) {v : V} {es fs : List (List T)} {md : Bool} (hfs : toT m v = some (.sl fs))
    (hm : (app m (fzU m (fz v))) k = .arr es e md) (hfr : (app m (fzU m (fz v))) id = .no) (hrow : ∀ r ∈ fs, r.length = sz) (hb : (es.length + fs.length) * by' ≤ 140737488355328) {ρ : Operand → Value} {o : Oper} {x y : Operand}
    (ho : o.op = .call { callee := .builtin .append, args := #[x, y], argTypes := #[t, t] }) (hx : V.Is G X (.ar k) (ρ x)) (hv : V.Is G X v (ρ y)) :
    Did P C m G X ((execOp ρ o).run P w) (.ar id) (fzU m (fz v) ++ [(k, if md then .dead else .ro es), (id, .arr (es ++ fs) e md)]) := by
  obtain ⟨i, z, hu, hi, hz, hzs, hby, hsz, hb0, hs0⟩ := apOf_spec ht
  obtain ⟨G1, hG1, hM1⟩ := hM.freezeL (fz v)
  have hT : T.Is G1 (.sl fs) (ρ y) := toT_is hM1 (by rw [toT_fz]; exact hfs) (fun k hk => unmut_fzU _ _ _ (.inr hk)) (V.Is.mono hG1 (Xle.refl X) _ _ hv)
  obtain ⟨B, c, news, hy, hl, hrows, hnews, hone⟩ := slice_cells hM1.gok hT hrow
  rw [V.Is] at hx
  have h63 : es.length + fs.length ≤ maxLen := by
    have : es.length + fs.length ≤ (es.length + fs.length) * by' := Nat.le_mul_of_pos_right _ hb0
    simp only [maxLen]; omega
  subst hsz; subst hby
  obtain ⟨v', w', G', hrun, hG', hX', hM'⟩ := hM1.append (id := id) hm hx hfr t o.type i z hu hi hz hzs B c news hl hrows hnews hone hb h63
  rw [← hy] at hrun
  refine ⟨.value v', v', w', G', _, append_exec ho hrun, .inl rfl, hG1.trans hG', hX', ?_, ?_⟩
  · rw [app_append]; exact hM'
  · rw [V.Is]; exact upd_same _ _ _

theorem did_append_nil (hM : Mem P C m w G X) {id : Nat} (hid : m id = .no) (hid2 : m (id + 1000) = .no) {t e : TypeId} {by' sz : Nat} (ht : apOf P t = some (e, by', sz)) {v : V} {fs : List (List T)} (hfs : toT m v = some (.sl fs))
    (hrow : ∀ r ∈ fs, r.length = sz) (hb : fs.length * by' ≤ 140737488355328) (hfz : ∀ k ∈ fz v, k ≠ id ∧ k ≠ id + 1000) {ρ : Operand → Value} {o : Oper} {x y : Operand}
    (ho : o.op = .call { callee := .builtin .append, args := #[x, y], argTypes := #[t, t] }) (hx : V.Is G X .nl (ρ x)) (hv : V.Is G X v (ρ y)) :
    Did P C m G X ((execOp ρ o).run P w) (.ar id) (fzU m (fz v) ++ [(id + 1000, .dead), (id, .arr fs e true)]) := by
  obtain ⟨i, z, hu, hi, hz, hzs, hby, hsz, hb0, hs0⟩ := apOf_spec ht
  obtain ⟨G1, hG1, hM1⟩ := hM.freezeL (fz v)
  have keep : ∀ (ks : List Nat) (m : Nat → Ob) (j : Nat), j ∉ ks → app m (fzU m ks) j = m j := by
    intro ks
    induction ks with
    | nil => intro m j _; rfl
    | cons q ks ih =>
      intro m j hk
      simp at hk
      unfold fzU
      split
      · rw [app, ih _ _ hk.2, upd_ne _ _ _ hk.1]
      · exact ih m j hk.2
  have hn1 : (app m (fzU m (fz v))) id = .no := by rw [keep _ _ _ (fun h => (hfz _ h).1 rfl)]; exact hid
  have hn2 : (app m (fzU m (fz v))) (id + 1000) = .no := by rw [keep _ _ _ (fun h => (hfz _ h).2 rfl)]; exact hid2
  have hT : T.Is G1 (.sl fs) (ρ y) := toT_is hM1 (by rw [toT_fz]; exact hfs) (fun k hk => unmut_fzU _ _ _ (.inr hk)) (V.Is.mono hG1 (Xle.refl X) _ _ hv)
  obtain ⟨hM2, hX2⟩ := hM1.newNil hn2 hi
  obtain ⟨B, c, news, hy, hl, hrows, hnews, hone⟩ := slice_cells hM2.gok hT hrow
  rw [V.Is] at hx
  have h63 : ([] : List (List T)).length + fs.length ≤ maxLen := by
    have : fs.length ≤ fs.length * by' := Nat.le_mul_of_pos_right _ hb0
    simp only [maxLen, List.length_nil, Nat.zero_add]; omega
  subst hsz; subst hby
  obtain ⟨v', w', G', hrun, hG', hX', hM'⟩ := hM2.append (k := id + 1000) (id := id) (es := []) (upd_same _ _ _) (upd_same _ _ _) (by rw [upd_ne _ _ _ (by omega)]; exact hn1) t o.type i z hu hi hz hzs B c news hl hrows hnews hone (by simpa using hb) h63
  rw [← hy, ← hx] at hrun
  refine ⟨.value v', v', w', G', _, append_exec ho hrun, .inl rfl, hG1.trans hG', hX2.trans hX', ?_, ?_⟩
  · rw [app_append]
    have e1 : upd (upd (upd (app m (fzU m (fz v))) (id + 1000) (.arr [] e true)) (id + 1000) .dead) id (.arr fs e true) = upd (upd (app m (fzU m (fz v))) (id + 1000) .dead) id (.arr fs e true) := by
      funext j; unfold upd; split <;> (try split) <;> rfl
    have e2 : ([] : List (List T)) ++ fs = fs := rfl
    rw [e2] at hM'
    simp only [if_true] at hM'
    rw [e1] at hM'
    exact hM'
  · rw [V.Is]; exact upd_same _ _ _

theorem did_append_ze (hM : Mem P C m w G X) {t e : TypeId} {by' sz : Nat} (ht : apOf P t = some (e, by', sz)) {v : V} {fs : List (List T)} (hfs : toT m v = some (.sl fs))
    (hrow : ∀ r ∈ fs, r.length = sz) (hb : fs.length * by' ≤ 140737488355328) {ρ : Operand → Value} {o : Oper} {x y : Operand}
    (ho : o.op = .call { callee := .builtin .append, args := #[x, y], argTypes := #[t, t] }) (hx : V.Is G X .ze (ρ x)) (hv : V.Is G X v (ρ y)) :
    Did P C m G X ((execOp ρ o).run P w) (.t (.sl fs)) (fzU m (fz v)) := by
  obtain ⟨i, z, hu, hi, hz, hzs, hby, hsz, hb0, hs0⟩ := apOf_spec ht
  obtain ⟨G1, hG1, hM1⟩ := hM.freezeL (fz v)
  have hT : T.Is G1 (.sl fs) (ρ y) := toT_is hM1 (by rw [toT_fz]; exact hfs) (fun k hk => unmut_fzU _ _ _ (.inr hk)) (V.Is.mono hG1 (Xle.refl X) _ _ hv)
  obtain ⟨B, c, news, hy, hl, hrows, hnews, hone⟩ := slice_cells hM1.gok hT hrow
  rw [V.Is] at hx
  obtain ⟨A, hx⟩ := hx
  have h63 : fs.length ≤ maxLen := by
    have : fs.length ≤ fs.length * by' := Nat.le_mul_of_pos_right _ hb0
    simp only [maxLen]; omega
  subst hsz; subst hby
  obtain ⟨v', w', hrun, hcase⟩ := run_append_ze (P := P) (w := w) t o.type e i z hu hi hz hzs A B c fs.length news hl hnews hone hb h63
  rw [← hy, ← hx] at hrun
  rcases hcase with ⟨rfl, rfl, h0⟩ | ⟨cap', cur', rest, rfl, rfl, hcur, hc1, hc2⟩
  · refine ⟨.value _, _, w', G1, X, append_exec ho hrun, .inl rfl, hG1, Xle.refl X, hM1, ?_⟩
    have : fs = [] := List.eq_nil_of_length_eq_zero h0
    subst this
    rw [V.Is, T.Is]
    exact ⟨A, 0, 0, rfl, Nat.le_refl _, Nat.zero_le _, .inl rfl⟩
  · obtain ⟨hM2, hle⟩ := hM1.fresh cur' e cur'.toList ⟨[], by simp⟩
    refine ⟨.value _, _, _, _, X, append_exec ho hrun, .inl rfl, hG1.trans hle, Xle.refl X, hM2, ?_⟩
    rw [V.Is, T.Is]
    refine ⟨_, cap', i.size, rfl, hc1, hc2, .inr ⟨w.heap.size, 0, cur'.toList, rfl, by simp, ?_⟩⟩
    rw [List.drop_zero]
    exact T.Rows.mono hle _ _ _ _ (by rw [hcur]; exact Sub.append news rest) hrows

/-! ### composite literals -/
theorem set_fold (cells : List Value) : ∀ (vs : List Value) (off k : Nat) (cs : Array Value), off + k + vs.length ≤ cs.size →
    ((vs.zipIdx k).foldl (fun cs (p : Value × Nat) => cs.setIfInBounds (off + p.2) p.1) cs).toList = splice cs.toList (off + k) vs
  | [], off, k, cs, _ => by simp [splice]
  | v :: vs, off, k, cs, h => by
    simp only [List.zipIdx_cons, List.foldl_cons]
    simp only [List.length_cons] at h
    rw [set_fold cells vs off (k + 1) _ (by simp; omega)]
    apply List.ext_getElem?
    intro p
    rw [splice_get _ _ _ (by simp; omega), splice_get _ _ _ (by simp; omega)]
    simp only [Array.toList_setIfInBounds, List.length_cons, List.getElem?_set]
    by_cases h1 : p < off + k
    · rw [if_pos (by omega), if_pos h1, if_neg (by omega)]
    · rw [if_neg h1]
      by_cases h2 : p = off + k
      · subst h2
        rw [if_pos (by omega), if_pos rfl, if_pos (by simp; omega), if_pos (by omega)]
        simp
      · rw [if_neg (by omega)]
        by_cases h3 : p < off + k + (vs.length + 1)
        · rw [if_pos (by omega), if_pos (by omega), show p - (off + k) = (p - (off + (k + 1))) + 1 by omega, List.getElem?_cons_succ]
        · rw [if_neg (by omega), if_neg (by omega), if_neg (by omega)]

def afill (pl : Nat → Option (Nat × Nat)) : List V → List (Nat × V) → Option (List V)
  | cs, [] => some cs
  | cs, (i, v) :: r => match pl i with
    | some (off, size) => if boxable v = true ∧ (vcells v).length = size ∧ off + size ≤ cs.length then afill pl (splice cs off (vcells v)) r else none
    | none => none

theorem fill_is {pl : Nat → Option (Nat × Nat)} (hX : ∀ k y, X k = some y → y.oneCell' = true) : ∀ {parts : List (Nat × V)} {xs : List (Nat × Value)} {cs us : List V} {cells : Array Value}, V.IsL G X cs cells.toList →
    xs.length = parts.length → (∀ (j i : Nat) (v : V), parts[j]? = some (i, v) → ∃ x, xs[j]? = some (i, x) ∧ V.Is G X v x) → afill pl cs parts = some us → ∃ cells', Instr.fill pl cells xs = some cells' ∧ V.IsL G X us cells'.toList
  | [], xs, cs, us, cells, hl, hlen, _, h => by
    simp [afill] at h; subst h
    have : xs = [] := List.eq_nil_of_length_eq_zero (by simpa using hlen)
    subst this
    exact ⟨cells, by simp [Instr.fill], hl⟩
  | (i, v) :: r, xs, cs, us, cells, hl, hlen, hp, h => by
    obtain ⟨⟨i', x⟩, xs', rfl⟩ : ∃ y ys, xs = y :: ys := by cases xs <;> simp at hlen; exact ⟨_, _, rfl⟩
    obtain ⟨x', hx', hi⟩ := hp 0 i v rfl
    simp at hx'; obtain ⟨rfl, rfl⟩ := hx'
    unfold afill at h
    cases hpl : pl i' with
    | none => rw [hpl] at h; simp at h
    | some os =>
      obtain ⟨off, size⟩ := os
      rw [hpl] at h
      simp only at h
      split at h
      · rename_i hc
        obtain ⟨hb, hvl, hfit⟩ := hc
        have hvc := vcells_is hi (boxable_is hb) hX
        have hvcl := hvc.length
        have hcl := hl.length
        have hsp := splice_is (off := off) hl hvc (by omega)
        have hset := set_fold [] x.cells.toList off 0 cells (by simp at hvcl hcl ⊢; omega)
        have hfold : (x.cells.zipIdx.foldl (fun cs (p : Value × Nat) => cs.setIfInBounds (off + p.2) p.1) cells).toList = splice cells.toList off x.cells.toList := by
          rw [← Array.foldl_toList, Array.toList_zipIdx]; simpa using hset
        obtain ⟨cells', h1, h2⟩ := fill_is (cells := x.cells.zipIdx.foldl (fun cs (p : Value × Nat) => cs.setIfInBounds (off + p.2) p.1) cells) (xs := xs') hX (by rw [hfold]; exact hsp) (by simpa using hlen) (fun j i v hj => by
          obtain ⟨x, hx, hi⟩ := hp (j + 1) i v (by simpa using hj)
          exact ⟨x, by simpa using hx, hi⟩) h
        refine ⟨cells', ?_, h2⟩
        rw [Instr.fill, hpl]
        simp only
        simp at hvcl hcl
        rw [if_neg (by simp; omega)]
        exact h1
      · cases h

def placesOf (P : Program) (t : TypeId) : Option (List (Nat × Nat)) :=
  match P.underlying t with
  | some (.struct fields) => fields.toList.mapM (fun f => (P.info? f.type).map fun i => (f.offset, i.size))
  | _ => none

theorem did_build (hM : Mem P C m w G X) {t : TypeId} {parts : Array (Nat × Operand)} {zs us : List V} {pl : List (Nat × Nat)} (hz : zcells P t = some zs) (hpl : placesOf P t = some pl) {E : Operand → V}
    (hf : afill (pl[·]?) zs (parts.toList.map fun p => (p.1, E p.2)) = some us) {ρ : Operand → Value} {o : Oper} (ho : o.op = .build t parts) (hE : ∀ x, V.Is G X (E x) (ρ x)) :
    Did P C m G X ((execOp ρ o).run P w) (.ag us) [] := by
  unfold placesOf at hpl
  split at hpl
  · rename_i fields hu
    unfold zcells at hz
    cases hi : P.info? t with
    | none => rw [hi] at hz; simp at hz
    | some i =>
      cases hzz : i.zero with
      | none => rw [hi] at hz; simp [hzz] at hz
      | some z =>
        rw [hi] at hz; simp [hzz] at hz
        have hl := zSs_is G X hz
        obtain ⟨cells, h1, h2⟩ := fill_is (cells := z.cells) (xs := parts.toList.map fun p => (p.1, ρ p.2)) hM.cell hl (by simp) (fun j i v hj => by
          rw [List.getElem?_map] at hj
          cases hq : parts.toList[j]? with
          | none => rw [hq] at hj; simp at hj
          | some p => rw [hq] at hj; simp at hj; obtain ⟨rfl, rfl⟩ := hj; exact ⟨ρ p.2, by rw [List.getElem?_map, hq]; rfl, hE _⟩) hf
        have hb : P.built t (parts.map fun (i, x) => (i, ρ x)).toList = some cells := by
          unfold Program.built
          rw [hi, hu]
          simp only [hzz, hpl]
          have : (fun x : Nat => pl.toArray[x]?) = (fun x : Nat => pl[x]?) := by funext x; simp
          rw [this]
          simpa using h1
        have : (execOp ρ o).run P w = .ok (.value (.agg cells)) w := by
          simp only [execOp, ho, Sem.run_bind, run_build w t _ cells hb, Result.andThen_ok]; rfl
        rw [this]
        exact did_value hM (by rw [V.Is]; exact ⟨cells, rfl, h2⟩)
  · cases hpl
end ops
end Go.Abs
