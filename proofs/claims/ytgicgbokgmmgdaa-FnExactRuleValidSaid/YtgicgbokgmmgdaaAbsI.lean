/- The effect of every operation, in one function, and that the model does just this. -/
import Derived.Test.YtgicgbokgmmgdaaAbsH
set_option linter.unusedSimpArgs false
set_option linter.unusedVariables false
namespace Go.Abs

/-- A bound of a slice expression. -/
def bnd (d : Nat) : Option V → Option Nat
  | none => some d
  | some (.t (.sc (.int _ i))) => if 0 ≤ i then some i.toNat else none
  | _ => none

section ops
variable {P : Program} {C : Cx} {m : Nat → Ob} {w : World} {G : Im} {X : Xm}

theorem run_bound {E : Operand → V} {ρ : Operand → Value} (hE : ∀ x, V.Is G X (E x) (ρ x)) {b : Option Operand} {d n y : Nat} (h : bnd d (b.map E) = some n) (hn : n ≤ y) (code : BoundsCode) :
    (match b.map ρ with | some v => Instr.sliceBound v y code | none => pure d : Sem Nat).run P w = .ok n w := by
  cases b with
  | none => simp [bnd] at h; subst h; simp
  | some x =>
    simp only [Option.map_some] at h ⊢
    have hx := hE x
    cases hv : E x with
    | t t =>
      rw [hv] at h hx
      cases t with
      | sc s =>
        cases s with
        | int k i =>
          simp [bnd] at h
          obtain ⟨h0, rfl⟩ := h
          rw [V.Is, T.Is] at hx
          rw [hx]
          simp [S.v, Instr.sliceBound, asIntOf, h0, show i ≤ (y : Int) by omega]
        | _ => simp [bnd] at h
      | sl es => simp [bnd] at h
    | _ => rw [hv] at h; simp [bnd] at h

theorem run_bounds {E : Operand → V} {ρ : Operand → Value} (hE : ∀ x, V.Is G X (E x) (ρ x)) {lo hi : Option Operand} {len cap l h : Nat} (hl : bnd 0 (lo.map E) = some l) (hh : bnd len (hi.map E) = some h) (h1 : l ≤ h) (h2 : h ≤ cap) (b : Bool) :
    (Instr.sliceBounds b len cap (lo.map ρ) (hi.map ρ) none).run P w = .ok (l, h, cap) w := by
  have e1 := run_bound (P := P) (w := w) hE hh h2 (if b then .sliceAcap else .sliceAlen)
  have e2 := run_bound (P := P) (w := w) hE hl h1 .sliceB
  unfold Instr.sliceBounds
  cases hi with
  | none =>
    have e3 : len = h := by simpa [bnd] using hh
    subst e3
    cases lo with
    | none => have e4 : 0 = l := by simpa [bnd] using hl
              subst e4; simp
    | some x => simp at e2; simp [e2]
  | some y =>
    simp at e1
    cases lo with
    | none => have e4 : 0 = l := by simpa [bnd] using hl
              subst e4; cases b <;> simp_all
    | some x => simp at e2; cases b <;> simp_all

theorem did_slice_str (hM : Mem P C m w G X) {t : TypeId} (ht : P.underlying t = some .string) {s : ByteArray} {E : Operand → V} {ρ : Operand → Value} (hE : ∀ x, V.Is G X (E x) (ρ x)) {o : Oper} {x : Operand} {lo hi : Option Operand} {l h : Nat}
    (ho : o.op = .slice t x lo hi none) (hx : ρ x = .string s) (hl : bnd 0 (lo.map E) = some l) (hh : bnd s.size (hi.map E) = some h) (h1 : l ≤ h) (h2 : h ≤ s.size) : Did P C m G X ((execOp ρ o).run P w) (.t (.sc (.str (s.extract l h)))) [] := by
  have : (execOp ρ o).run P w = .ok (.value (.string (s.extract l h))) w := by
    simp [execOp, ho, Instr.sliceAt, run_underlying ht, Instr.slice, hx, run_bounds hE hl hh h1 h2]
  rw [this]
  exact did_value hM (by rw [V.Is, T.Is]; rfl)

theorem did_slice (hM : Mem P C m w G X) {t e : TypeId} {sz : Nat} (ht : elOf P t = some (e, sz)) {es : List (List T)} {E : Operand → V} {ρ : Operand → Value} (hE : ∀ x, V.Is G X (E x) (ρ x)) {o : Oper} {x : Operand} {lo hi : Option Operand} {l h : Nat}
    (ho : o.op = .slice t x lo hi none) (hx : toT m (E x) = some (.sl es)) (hrow : ∀ r ∈ es, r.length = sz) (hl : bnd 0 (lo.map E) = some l) (hh : bnd es.length (hi.map E) = some h) (h1 : l ≤ h) (h2 : h ≤ es.length) :
    Did P C m G X ((execOp ρ o).run P w) (.t (.sl ((es.take h).drop l))) (fzU m (fz (E x))) := by
  obtain ⟨hu, hs⟩ := elOf_spec ht
  obtain ⟨G1, hG1, hM1⟩ := hM.freezeL (fz (E x))
  have hT : T.Is G1 (.sl es) (ρ x) := toT_is hM1 (by rw [toT_fz]; exact hx) (fun k hk => unmut_fzU _ _ _ (.inr hk)) (V.Is.mono hG1 (Xle.refl X) _ _ (hE x))
  rw [T.Is] at hT
  obtain ⟨A, c, sz', hxv, hc, hc2, hr⟩ := hT
  have hb := run_bounds (P := P) (w := w) hE hl hh h1 (show h ≤ c by omega) true
  have hlen : ((es.take h).drop l).length = h - l := by simp; omega
  refine ⟨.value (.slice (if c = l then A else A.map (·.add (l * sz))) (h - l) (c - l)), _, w, G1, X, ?_, .inl rfl, hG1, Xle.refl X, hM1, ?_⟩
  · simp [execOp, ho, Instr.sliceAt, run_underlying hu, Instr.slice, hxv, hb, run_size hs]
  · rw [V.Is, T.Is]
    refine ⟨_, c - l, sz', by rw [hlen], by rw [hlen]; omega, by omega, ?_⟩
    by_cases hlh : l = h
    · left; exact List.eq_nil_of_length_eq_zero (by omega)
    · rcases hr with rfl | ⟨b, off, cs, rfl, hg, hrows⟩
      · simp at h2; omega
      · right
        have hss : sz' = sz := by
          have h0 : 0 < es.length := by omega
          obtain ⟨h3, _⟩ := hrows.get 0 es[0] (List.getElem?_eq_getElem h0)
          rw [← h3]; exact hrow _ (List.getElem_mem h0)
        subst hss
        refine ⟨b, off + l * sz', cs, ?_, hg, ?_⟩
        · rw [if_neg (by omega)]; simp [Addr.add_lit]
        · rw [← List.drop_drop]; exact (hrows.take h).drop l

/-- A slice without elements and without room. -/
theorem did_slice0 (hM : Mem P C m w G X) {t e : TypeId} {sz : Nat} (ht : elOf P t = some (e, sz)) {E : Operand → V} {ρ : Operand → Value} (hE : ∀ x, V.Is G X (E x) (ρ x)) {o : Oper} {x hi mx : Operand} {n : Nat}
    (ho : o.op = .slice t x none (some hi) (some mx)) (hl : lenV m (E x) = some n) {k1 k2 : IntKind} (hhi : E hi = .t (.sc (.int k1 0))) (hmx : E mx = .t (.sc (.int k2 0))) : Did P C m G X ((execOp ρ o).run P w) .ze [] := by
  obtain ⟨hu, hs⟩ := elOf_spec ht
  obtain ⟨A, c, hx⟩ := lenV_is hM hl (hE x)
  have h1 := hE hi
  have h2 := hE mx
  rw [hhi, V.Is, T.Is] at h1
  rw [hmx, V.Is, T.Is] at h2
  have : (execOp ρ o).run P w = .ok (.value (.slice A 0 0)) w := by
    simp [execOp, ho, Instr.sliceAt, run_underlying hu, Instr.slice, hx, h1, h2, S.v, Instr.sliceBounds, Instr.sliceBound, asIntOf, run_size hs]
  rw [this]
  exact did_value hM (by rw [V.Is]; exact ⟨A, rfl⟩)

def ints : List (List T) → Option (List Int)
  | [] => some []
  | [.sc (.int .u8 n)] :: r => match ints r with
    | some ns => some (n :: ns)
    | none => none
  | _ => none
theorem ints_spec : ∀ {es : List (List T)} {ns : List Int}, ints es = some ns → es = ns.map fun n => [T.sc (.int .u8 n)]
  | [], ns, h => by simp [ints] at h; subst h; rfl
  | r :: es, ns, h => by
    unfold ints at h
    split at h
    · simp at h; subst h; rename_i heq; exact heq
    · rename_i n r' heq
      split at h
      · rename_i ns' hns
        simp at h; subst h
        simp at heq; obtain ⟨rfl, rfl⟩ := heq
        simp [ints_spec hns]
      · cases h
    · cases h
def strOf (ns : List Int) : ByteArray := ns.foldl (fun r n => r.push (UInt8.ofNat n.toNat)) ByteArray.empty

theorem did_bytes_str (hM : Mem P C m w G X) {src dst e : TypeId} {sz : Nat} (hsrc : elOf P src = some (e, 1)) (hu8 : P.underlying e = some (.int .u8)) (hd : P.underlying dst = some .string) {v : V} {es : List (List T)} {ns : List Int} (hv : toT m v = some (.sl es)) (hns : ints es = some ns)
    {ρ : Operand → Value} {o : Oper} {x : Operand} (ho : o.op = .convert src dst x) (hx : V.Is G X v (ρ x)) : Did P C m G X ((execOp ρ o).run P w) (.t (.sc (.str (strOf ns)))) (fzU m (fz v)) := by
  obtain ⟨hu, hs⟩ := elOf_spec hsrc
  obtain ⟨G1, hG1, hM1⟩ := hM.freezeL (fz v)
  have hes := ints_spec hns
  have hT : T.Is G1 (.sl es) (ρ x) := toT_is hM1 (by rw [toT_fz]; exact hv) (fun k hk => unmut_fzU _ _ _ (.inr hk)) (V.Is.mono hG1 (Xle.refl X) _ _ hx)
  obtain ⟨B, c, news, hxv, hl, hrows, hnews, _⟩ := slice_cells hM1.gok hT (sz := 1) (by intro r hr; rw [hes] at hr; simp at hr; obtain ⟨n, _, rfl⟩ := hr; rfl)
  have hnl : news = ns.map (Value.int .u8) := by
    apply List.ext_getElem?
    intro j
    rw [List.getElem?_map]
    cases hj : ns[j]? with
    | none =>
      have : ns.length ≤ j := List.getElem?_eq_none_iff.1 hj
      simp; rw [hl, hes]; simp; exact this
    | some n =>
      obtain ⟨_, h2⟩ := hrows.get j [T.sc (.int .u8 n)] (by rw [hes, List.getElem?_map, hj]; rfl)
      obtain ⟨y, hy, hi⟩ := h2.get 0 _ rfl
      rw [T.Is] at hi
      rw [List.getElem?_drop, Nat.mul_one, Nat.add_zero] at hy
      rw [hy, hi]; rfl
  have hrun : (convert src dst (ρ x)).run P w = .ok (.string (strOf ns)) w := by
    rw [hxv, run_convert_bytes_string w src dst e B es.length c hu hu8 hd]
    rcases Nat.eq_zero_or_pos es.length with h0 | hpos
    · have hn0 : ns = [] := by rw [hes] at h0; simpa using h0
      subst hn0
      cases B with
      | none => simp [Conv.bytesToString, strOf]
      | some a =>
        have := run_bytesToString (P := P) w a es.length c [] (by rw [h0]; simp [loadCells, loadCellsFrom])
        simpa [strOf] using this
    · obtain ⟨a, rfl, hcell⟩ := hnews.resolve_left (by omega)
      have hlc := run_loadCells_list (P := P) w a news hcell
      rw [hl, Nat.mul_one, hnl] at hlc
      exact run_bytesToString w a es.length c ns hlc
  refine ⟨.value (.string (strOf ns)), _, w, G1, X, ?_, .inl rfl, hG1, Xle.refl X, hM1, by rw [V.Is, T.Is]; rfl⟩
  simp [execOp, ho, hrun]
end ops

/-! ### all operations -/
def astore (P : Program) (m : Nat → Ob) (t : TypeId) (p v : V) : Option (List (Nat × Ob)) :=
  if oneAll (vcells v) = true ∧ szOf P t = some (vcells v).length then
    match p with
    | .rf k off => match m k with
      | .box cs => if off + (vcells v).length ≤ cs.length then some [(k, .box (splice cs off (vcells v)))] else none
      | _ => none
    | .re k i sz off => match m k with
      | .arr es e true => match es[i]?, toTs m (vcells v) with
        | some r, some ts => if r.length = sz ∧ szOf P e = some sz ∧ off + (vcells v).length ≤ sz ∧ k ∉ (vcells v).flatMap fz then
            some (fzU m ((vcells v).flatMap fz) ++ [(k, .arr (es.set i (splice r off ts)) e true)]) else none
        | _, _ => none
      | _ => none
    | _ => none
  else none

def isNo : Ob → Bool
  | .no => true
  | _ => false
theorem isNo_eq {o : Ob} (h : isNo o = true) : o = .no := by cases o <;> simp [isNo] at h ⊢

def aappend (P : Program) (id : Nat) (m : Nat → Ob) (t : TypeId) (p v : V) : Option (V × List (Nat × Ob)) :=
  match apOf P t, toT m v with
  | some (e, by', sz), some (.sl fs) =>
    if fs.all (fun r => decide (r.length = sz)) = true ∧ isNo (m id) = true ∧ isNo (m (id + 1000)) = true ∧ id ∉ fz v ∧ id + 1000 ∉ fz v then
      match p with
      | .ar k => match app m (fzU m (fz v)) k with
        | .arr es e' md => if e' = e ∧ (es.length + fs.length) * by' ≤ 140737488355328 then some (.ar id, fzU m (fz v) ++ [(k, if md then .dead else .ro es), (id, .arr (es ++ fs) e md)]) else none
        | _ => none
      | .ze => if fs.length * by' ≤ 140737488355328 then some (.t (.sl fs), fzU m (fz v)) else none
      | .nl => if fs.length * by' ≤ 140737488355328 then some (.ar id, fzU m (fz v) ++ [(id + 1000, .dead), (id, .arr fs e true)]) else none
      | _ => none
    else none
  | _, _ => none

theorem keep_fzU : ∀ (ks : List Nat) (m : Nat → Ob) (j : Nat), j ∉ ks → app m (fzU m ks) j = m j
  | [], m, j, _ => rfl
  | q :: ks, m, j, hk => by
    simp at hk
    unfold fzU
    split
    · rw [app, keep_fzU ks _ _ hk.2, upd_ne _ _ _ hk.1]
    · exact keep_fzU ks m j hk.2
end Go.Abs
