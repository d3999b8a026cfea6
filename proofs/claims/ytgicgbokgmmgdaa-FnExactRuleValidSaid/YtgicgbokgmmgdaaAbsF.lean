/- The effect of the operations on slices, structs and arrays. -/
import Derived.Test.YtgicgbokgmmgdaaAbsE
set_option linter.unusedSimpArgs false
set_option linter.unusedVariables false
namespace Go.Abs

theorem splice_get {α : Type} (cs : List α) (off : Nat) (vs : List α) (h : off + vs.length ≤ cs.length) (p : Nat) :
    (splice cs off vs)[p]? = if p < off then cs[p]? else if p < off + vs.length then vs[p - off]? else cs[p]? := by
  unfold splice
  rw [List.append_assoc, List.getElem?_append, List.length_take]
  by_cases h1 : p < off
  · rw [if_pos (by omega), if_pos h1, List.getElem?_take, if_pos h1]
  · rw [if_neg (by omega), if_neg h1, List.getElem?_append]
    by_cases h2 : p < off + vs.length
    · rw [if_pos (by omega), if_pos h2, show p - min off cs.length = p - off by omega]
    · rw [if_neg (by omega), if_neg h2, List.getElem?_drop]
      congr 1; omega

theorem T.Rows.set {G : Im} {sz : Nat} {es : List (List T)} {xs ys : List Value} {i off : Nat} {r ts : List T} (h : T.Rows G sz es xs) (hr : es[i]? = some r) (hsz : r.length = sz) (hoff : off + ts.length ≤ sz)
    (hc : T.Cells G ts ys) (hl : ts.length = ys.length) (hx : xs.length = es.length * sz) : T.Rows G sz (es.set i (splice r off ts)) (splice xs (i * sz + off) ys) := by
  have hi : i < es.length := (List.getElem?_eq_some_iff.1 hr).1
  have hmul : (i + 1) * sz ≤ es.length * sz := Nat.mul_le_mul_right _ (by omega)
  rw [Nat.add_mul, Nat.one_mul] at hmul
  have hfit : i * sz + off + ys.length ≤ xs.length := by omega
  refine T.Rows.of_get fun j q hq => ?_
  by_cases hj : j = i
  · subst hj
    rw [List.getElem?_set_self hi] at hq
    cases hq
    refine ⟨by rw [splice_length _ _ _ (by omega), hsz], T.Cells.of_get fun p t ht => ?_⟩
    rw [List.getElem?_drop, splice_get _ _ _ hfit]
    rw [splice_get _ _ _ (by omega)] at ht
    have hrow := (h.get j r hr).2
    have base : ∀ t, r[p]? = some t → ∃ x, xs[j * sz + p]? = some x ∧ T.Is G t x := fun t ht => by
      obtain ⟨x, hx1, hx2⟩ := hrow.get p t ht
      exact ⟨x, by rw [List.getElem?_drop] at hx1; exact hx1, hx2⟩
    by_cases h1 : p < off
    · rw [if_pos h1] at ht; rw [if_pos (by omega)]; exact base t ht
    · rw [if_neg h1] at ht; rw [if_neg (by omega)]
      by_cases h2 : p < off + ts.length
      · rw [if_pos h2] at ht; rw [if_pos (by omega), show j * sz + p - (j * sz + off) = p - off by omega]
        exact hc.get _ t ht
      · rw [if_neg h2] at ht; rw [if_neg (by omega)]; exact base t ht
  · rw [List.getElem?_set_ne (Ne.symm hj)] at hq
    obtain ⟨h1, h2⟩ := h.get j q hq
    refine ⟨h1, T.Cells.of_get fun p t ht => ?_⟩
    have hp : p < sz := by have := (List.getElem?_eq_some_iff.1 ht).1; omega
    obtain ⟨x, hx1, hx2⟩ := h2.get p t ht
    refine ⟨x, ?_, hx2⟩
    rw [List.getElem?_drop] at hx1 ⊢
    rw [splice_get _ _ _ hfit]
    rcases Nat.lt_or_gt_of_ne hj with hlt | hgt
    · have : (j + 1) * sz ≤ i * sz := Nat.mul_le_mul_right _ (by omega)
      rw [Nat.add_mul, Nat.one_mul] at this
      rw [if_pos (by omega)]; exact hx1
    · have : (i + 1) * sz ≤ j * sz := Nat.mul_le_mul_right _ (by omega)
      rw [Nat.add_mul, Nat.one_mul] at this
      rw [if_neg (by omega), if_neg (by omega)]; exact hx1

section ops
variable {P : Program} {C : Cx} {m : Nat → Ob} {w : World} {G : Im} {X : Xm}

/-- A store into an element of an array of the function's own. -/
theorem did_store_arr (hM : Mem P C m w G X) {t e : TypeId} {k i sz off : Nat} {v : V} {es : List (List T)} {r ts : List T} (hm : m k = .arr es e true) {ρ : Operand → Value} {o : Oper} {p x : Operand} (ho : o.op = .store t p x)
    (hp : V.Is G X (.re k i sz off) (ρ p)) (hv : V.Is G X v (ρ x)) (hone : oneAll (vcells v) = true) (hsz : szOf P t = some (vcells v).length) (hr : es[i]? = some r) (hrl : r.length = sz) (hes : szOf P e = some sz)
    (hfit : off + (vcells v).length ≤ sz) (hts : toTs m (vcells v) = some ts) (hkk : k ∉ (vcells v).flatMap fz) :
    Did P C m G X ((execOp ρ o).run P w) .jk (fzU m ((vcells v).flatMap fz) ++ [(k, .arr (es.set i (splice r off ts)) e true)]) := by
  have hbx : v.one = true ∨ ∃ cs, v = .ag cs := by
    cases v <;> simp [vcells, oneAll, V.one] at hone ⊢
  obtain ⟨G1, hG1, hM1⟩ := hM.freezeL ((vcells v).flatMap fz)
  have hl := vcells_is (V.Is.mono hG1 (Xle.refl X) _ _ hv) hbx hM1.cell
  have hts1 : toTs (app m (fzU m ((vcells v).flatMap fz))) (vcells v) = some ts := by rw [toTs_fz]; exact hts
  obtain ⟨hlen, hcells⟩ := toTs_is hM1 hts1 (fun k hk => unmut_fzU _ _ _ (.inr hk)) hl
  have hm1 : app m (fzU m ((vcells v).flatMap fz)) k = .arr es e true := by
    have : ∀ (ks : List Nat) (m : Nat → Ob), k ∉ ks → app m (fzU m ks) k = m k := by
      intro ks
      induction ks with
      | nil => intro m _; rfl
      | cons j ks ih =>
        intro m hk
        simp at hk
        unfold fzU
        split
        · rw [app, ih _ hk.2, upd_ne _ _ _ hk.1]
        · exact ih m hk.2
    rw [this _ _ hkk]; exact hm
  rw [V.Is] at hp
  obtain ⟨b, n, c, hX, hpx⟩ := hp
  have hob := hM1.ob k _ hX
  rw [hm1] at hob
  obtain ⟨xs, inf, hi, hown, hrows, hGn⟩ := hob
  have hinf : inf.size = sz := by simp [szOf, hi] at hes; exact hes
  rcases hown.2 with ⟨hx0, _⟩ | ⟨g, cap, cur, hx0, hb0, hw, hc, hcm, hcs, htake⟩
  · simp at hx0
  · simp at hx0
    obtain ⟨rfl, rfl, rfl⟩ := hx0
    have hvl := hl.length
    have hcz : (ρ x).cells.size = (ρ x).cells.toList.length := by simp
    have hil : i < es.length := (List.getElem?_eq_some_iff.1 hr).1
    have hmul : (i + 1) * sz ≤ es.length * sz := Nat.mul_le_mul_right _ (by omega)
    rw [Nat.add_mul, Nat.one_mul] at hmul
    have hmul2 : es.length * sz ≤ c * sz := Nat.mul_le_mul_right _ hc
    rw [hinf] at hcs htake hrows
    have hrun := run_storeAt (P := P) (w := w) (x := ρ x) (b := b) (off := i * sz + off) hsz (by simpa using hvl) (oneAll_is hone hl hM1.cell) hw (by omega)
    have hxl : xs.length = es.length * sz := by rw [hown.1, hinf]
    refine ⟨.skip, undef, _, G1, X, by simp [execOp, ho, hpx, hrun]; rfl, .inr ⟨rfl, rfl⟩, hG1, Xle.refl X, ?_, trivial⟩
    rw [app_append]
    have hG0 : G1 b = none := by simpa using hGn ⟨b, 0, none⟩ _ _ rfl
    refine hM1.rewrite hX (by rw [hm1]; rfl) hG0 _ _ (by simp) (fun b' hb' => by simpa [Ob.blk] using hb'.symm) ?_
    have htsl : ts.length = (ρ x).cells.toList.length := hlen
    have hnew := hrows.set (off := off) (ts := ts) (ys := (ρ x).cells.toList) hr hrl (by omega) hcells htsl hxl
    refine ⟨_, inf, hi, ⟨?_, .inr ⟨b, c, _, by simp, hb0, setRow_heap w b cur _ e _ hw, by simpa using hc, hcm, ?_, ?_⟩⟩, by rw [hinf]; exact hnew, ?_⟩
    · rw [splice_length _ _ _ (by omega), List.length_set, hinf]; exact hxl
    · rw [List.size_toArray, splice_length _ _ _ (by simp; omega), hinf]; simpa using hcs
    · simp only [List.length_set, hinf]
      apply List.ext_getElem?
      intro p
      rw [List.getElem?_take, splice_get _ _ _ (by simp; omega), splice_get _ _ _ (by omega)]
      by_cases hp : p < es.length * sz
      · rw [if_pos hp]
        have : xs[p]? = cur.toList[p]? := by rw [← htake, List.getElem?_take, if_pos hp]
        rw [this]
      · rw [if_neg hp, if_neg (by omega), if_neg (by omega), List.getElem?_eq_none (by omega)]
    · intro a n' c' ha
      simp at ha
      obtain ⟨rfl, _⟩ := ha
      simpa using hG0

/-! ### fields, indexes -/
def fldOf (P : Program) (s : TypeId) (f : Nat) : Option (Nat × TypeId) :=
  match P.underlying s with
  | some (.struct fields) => match fields[f]? with
    | some fd => match szOf P fd.type with
      | some (_ + 1) => some (fd.offset, fd.type)
      | _ => none
    | none => none
  | _ => none
theorem fldOf_spec {s : TypeId} {f : Nat} {off : Nat} {ft : TypeId} (h : fldOf P s f = some (off, ft)) : ∃ fields fd n, P.underlying s = some (.struct fields) ∧ fields[f]? = some fd ∧ szOf P ft = some (n + 1) ∧ fd.offset = off ∧ fd.type = ft := by
  unfold fldOf at h
  split at h
  · rename_i fields hu
    split at h
    · rename_i fd hf
      split at h
      · rename_i n hs; simp at h; obtain ⟨rfl, rfl⟩ := h; exact ⟨fields, fd, n, hu, hf, hs, rfl, rfl⟩
      · cases h
    · cases h
  · cases h

def fieldP (off : Nat) : V → Option V
  | .rf k o => some (.rf k (o + off))
  | .re k i sz o => some (.re k i sz (o + off))
  | .pe cs => some (.pe (cs.drop off))
  | _ => none
theorem did_fieldAddr (hM : Mem P C m w G X) {s : TypeId} {f off : Nat} {ft : TypeId} (hf : fldOf P s f = some (off, ft)) {p v : V} (hpv : fieldP off p = some v) {ρ : Operand → Value} {o : Oper} {x : Operand} (ho : o.op = .fieldAddr s x f) (hp : V.Is G X p (ρ x)) :
    Did P C m G X ((execOp ρ o).run P w) v [] := by
  obtain ⟨fields, fd, n, hu, hfd, hs, rfl, rfl⟩ := fldOf_spec hf
  have key : ∀ b q, ρ x = .pointer (some ⟨b, q, none⟩) → (execOp ρ o).run P w = .ok (.value (.pointer (some ⟨b, q + fd.offset, none⟩))) w := by
    intro b q hx
    simp [execOp, ho, Instr.fieldAt, run_underlying hu, hfd, hx, Instr.sureAddr, fieldPlace, run_size hs, Addr.add_lit]
  cases p <;> simp [fieldP] at hpv <;> subst hpv <;> rw [V.Is] at hp
  · obtain ⟨b, q, row, hx, hg, hc⟩ := hp
    rw [key b q hx]
    refine did_value hM ?_
    rw [V.Is]
    refine ⟨b, _, row, rfl, hg, T.Cells.of_get fun j t ht => ?_⟩
    rw [List.getElem?_drop] at ht
    obtain ⟨y, hy, hi⟩ := hc.get _ t ht
    exact ⟨y, by rw [List.getElem?_drop] at hy ⊢; rw [← hy]; congr 1; omega, hi⟩
  · obtain ⟨b, hX, hx⟩ := hp
    rw [key b _ hx]
    exact did_value hM (by rw [V.Is]; exact ⟨b, hX, rfl⟩)
  · obtain ⟨b, n', c, hX, hx⟩ := hp
    rw [key b _ hx]
    exact did_value hM (by rw [V.Is]; exact ⟨b, n', c, hX, by rw [Nat.add_assoc]⟩)

theorem did_field (hM : Mem P C m w G X) {s : TypeId} {f off : Nat} {ft : TypeId} (hf : fldOf P s f = some (off, ft)) {cs : List V} {v : V} (hv : takeT P ft (cs.drop off) = some v) {ρ : Operand → Value} {o : Oper} {x : Operand} (ho : o.op = .field s x f) (hp : V.Is G X (.ag cs) (ρ x)) :
    Did P C m G X ((execOp ρ o).run P w) v [] := by
  obtain ⟨fields, fd, n, hu, hfd, hs, rfl, rfl⟩ := fldOf_spec hf
  rw [V.Is] at hp
  obtain ⟨xs, hx, hl⟩ := hp
  have hlen := hl.length
  unfold takeT at hv
  cases ha : aggOf P fd.type with
  | none => rw [ha] at hv; cases hv
  | some ag =>
    rw [ha] at hv
    have hra := run_agg (w := w) ha
    cases ag with
    | true =>
      rw [hs] at hv
      simp only at hv
      split at hv
      · rename_i hn
        cases hv
        have hrun : (execOp ρ o).run P w = .ok (.value (.agg (xs.extract fd.offset (fd.offset + (n + 1))))) w := by
          simp [execOp, ho, Instr.field, run_underlying hu, hfd, hx, asAgg, part, hra, run_size hs]
        rw [hrun]
        refine did_value hM ?_
        rw [V.Is]
        simp at hlen hn
        refine ⟨_, rfl, V.IsL.of_get (by simp; omega) fun j u hj => ?_⟩
        rw [List.getElem?_take] at hj
        split at hj
        · rename_i hjn
          rw [List.getElem?_drop] at hj
          obtain ⟨y, hy, hi⟩ := hl.get _ u hj
          refine ⟨y, ?_, hi⟩
          have hjx : fd.offset + j < xs.size := by simpa using (List.getElem?_eq_some_iff.1 hy).1
          simp at hy ⊢
          rw [List.getElem?_take, if_pos hjn, List.getElem?_drop]; simpa using hy
        · cases hj
      · cases hv
    | false =>
      simp only at hv
      rw [List.head?_eq_getElem?, List.getElem?_drop] at hv
      obtain ⟨y, hy, hi⟩ := hl.get _ v hv
      have hrun : (execOp ρ o).run P w = .ok (.value y) w := by
        simp at hy
        simp [execOp, ho, Instr.field, run_underlying hu, hfd, hx, asAgg, part, hra, hy]
      rw [hrun]
      exact did_value hM hi

def elOf (P : Program) (t : TypeId) : Option (TypeId × Nat) :=
  match P.underlying t with
  | some (.slice e) => match szOf P e with
    | some sz => some (e, sz)
    | none => none
  | _ => none
theorem elOf_spec {t e : TypeId} {sz : Nat} (h : elOf P t = some (e, sz)) : P.underlying t = some (.slice e) ∧ szOf P e = some sz := by
  unfold elOf at h
  split at h
  · rename_i e' hu
    split at h
    · rename_i sz' hs; simp at h; obtain ⟨rfl, rfl⟩ := h; exact ⟨hu, hs⟩
    · cases h
  · cases h

/-- The address of an element. -/
def indexP (m : Nat → Ob) (sz : Nat) (i : Nat) : V → Option V
  | .t (.sl es) => match es[i]? with
    | some r => if r.length = sz then some (.pe r) else none
    | none => none
  | .ar k => match m k with
    | .arr es _ _ => if i < es.length then some (.re k i sz 0) else none
    | .ro es => match es[i]? with
      | some r => if r.length = sz then some (.pe r) else none
      | none => none
    | _ => none
  | _ => none

theorem run_indexAt {t e : TypeId} {sz : Nat} (ht : elOf P t = some (e, sz)) {k : IntKind} {i : Int} {n c b off : Nat} (h0 : 0 ≤ i) (h1 : i < n) : (Instr.indexAt t (.slice (some ⟨b, off, none⟩) n c) (.int k i)).run P w = .ok (.pointer (some ⟨b, off + i.toNat * sz, none⟩)) w := by
  obtain ⟨hu, hs⟩ := elOf_spec ht
  simp [Instr.indexAt, asIntOf, run_underlying hu, h0, h1, run_size hs, Addr.add_lit]

theorem did_indexAddr (hM : Mem P C m w G X) {t e : TypeId} {sz : Nat} (ht : elOf P t = some (e, sz)) {k : IntKind} {i : Int} (h0 : 0 ≤ i) {p v : V} (hv : indexP m sz i.toNat p = some v) {ρ : Operand → Value} {o : Oper} {x y : Operand} (ho : o.op = .indexAddr t x y)
    (hp : V.Is G X p (ρ x)) (hi : ρ y = .int k i) : Did P C m G X ((execOp ρ o).run P w) v [] := by
  have slc : ∀ (es : List (List T)) (r : List T), es[i.toNat]? = some r → r.length = sz → T.Is G (.sl es) (ρ x) → Did P C m G X ((execOp ρ o).run P w) (.pe r) [] := by
    intro es r hr hrl hT
    rw [T.Is] at hT
    obtain ⟨A, c, sz', hx, hc, _, hrow⟩ := hT
    have hil : i.toNat < es.length := (List.getElem?_eq_some_iff.1 hr).1
    rcases hrow with rfl | ⟨b, off, cs, rfl, hg, hrows⟩
    · simp at hil
    · have hrun := run_indexAt (w := w) ht (k := k) (n := es.length) (c := c) (b := b) (off := off) h0 (by omega)
      have : (execOp ρ o).run P w = .ok (.value (.pointer (some ⟨b, off + i.toNat * sz, none⟩))) w := by simp [execOp, ho, hx, hi, hrun]
      rw [this]
      obtain ⟨h3, h4⟩ := hrows.get _ r hr
      refine did_value hM ?_
      rw [V.Is]
      refine ⟨b, _, cs, rfl, hg, ?_⟩
      rw [← List.drop_drop, ← hrl, h3]; exact h4
  cases p <;> simp [indexP] at hv
  · rename_i y'
    cases y' <;> simp at hv
    rename_i es
    cases hr : es[i.toNat]? with
    | none => rw [hr] at hv; simp at hv
    | some r =>
      rw [hr] at hv; simp at hv
      obtain ⟨hrl, rfl⟩ := hv
      exact slc es r hr hrl (by rw [V.Is] at hp; exact hp)
  · rename_i kk
    rw [V.Is] at hp
    have hob := hM.ob kk _ hp
    cases hm : m kk <;> rw [hm] at hv hob <;> simp at hv
    · rename_i es e' md
      obtain ⟨hlt, rfl⟩ := hv
      obtain ⟨xs, inf, hinf, hown, _, _⟩ := hob
      rcases hown.2 with ⟨hx0, h00⟩ | ⟨g, cap, cur, hx0, _⟩
      · omega
      · have hrun := run_indexAt (w := w) ht (k := k) (n := es.length) (c := cap) (b := g) (off := 0) h0 (by omega)
        have : (execOp ρ o).run P w = .ok (.value (.pointer (some ⟨g, 0 + i.toNat * sz, none⟩))) w := by simp only [execOp, ho, hx0, hi]; simp [hrun]
        rw [this]
        exact did_value hM (by rw [V.Is]; exact ⟨g, es.length, cap, by rw [hp, hx0], by simp⟩)
    · rename_i es
      cases hr : es[i.toNat]? with
      | none => rw [hr] at hv; simp at hv
      | some r =>
        rw [hr] at hv; simp at hv
        obtain ⟨hrl, rfl⟩ := hv
        exact slc es r hr hrl hob

def byteAt (s : ByteArray) (i : Nat) : UInt8 := s.data.toList.getD i 0
theorem did_index_str (hM : Mem P C m w G X) {t : TypeId} (ht : P.underlying t = some .string) {s : ByteArray} {k : IntKind} {i : Int} (h0 : 0 ≤ i) (h1 : i < s.size) {ρ : Operand → Value} {o : Oper} {x y : Operand} (ho : o.op = .index t x y)
    (hp : ρ x = .string s) (hi : ρ y = .int k i) : Did P C m G X ((execOp ρ o).run P w) (.t (.sc (.int .u8 (byteAt s i.toNat).toNat))) [] := by
  have hlt : i.toNat < s.size := by omega
  have : (execOp ρ o).run P w = .ok (.value (.int .u8 (byteAt s i.toNat).toNat)) w := by
    have hg : s[i.toNat]? = some (byteAt s i.toNat) := by
      rw [getElem?_pos s i.toNat hlt]
      congr 1
      unfold byteAt
      rw [List.getD_eq_getElem?_getD, List.getElem?_eq_getElem (by simpa using hlt)]
      rfl
    simp [execOp, ho, hp, hi, Instr.index, asIntOf, run_underlying ht, h0, hg]
  rw [this]
  exact did_value hM (by rw [V.Is, T.Is]; rfl)

/-! ### lengths -/
def lenV (m : Nat → Ob) : V → Option Nat
  | .t (.sl es) => some es.length
  | .nl => some 0
  | .sn _ (.sl es) => some es.length
  | .ar k => match m k with
    | .arr es _ _ => some es.length
    | .ro es => some es.length
    | _ => none
  | _ => none
theorem lenV_is (hM : Mem P C m w G X) {v : V} {n : Nat} (h : lenV m v = some n) {x : Value} (hv : V.Is G X v x) : ∃ A c, x = .slice A n c := by
  cases v <;> simp [lenV] at h
  · rename_i t
    cases t <;> simp at h
    subst h
    rw [V.Is, T.Is] at hv
    obtain ⟨A, c, sz, hx, _⟩ := hv
    exact ⟨A, c, hx⟩
  · subst h; rw [V.Is] at hv; exact ⟨none, 0, hv⟩
  · rename_i k
    rw [V.Is] at hv
    have hob := hM.ob k _ hv
    cases hm : m k <;> rw [hm] at h hob <;> simp at h <;> subst h
    · obtain ⟨xs, inf, hinf, hown, _, _⟩ := hob
      rcases hown.2 with ⟨hx0, h00⟩ | ⟨g, cap, cur, hx0, _⟩
      · exact ⟨none, 0, by rw [hx0, h00]⟩
      · exact ⟨_, cap, hx0⟩
    · obtain ⟨A, c, sz, hx, _⟩ := hob
      exact ⟨A, c, hx⟩
  · rename_i b t
    cases t <;> simp at h
    subst h
    rw [V.Is, T.Is] at hv
    obtain ⟨⟨A, c, sz, hx, _⟩, _⟩ := hv
    exact ⟨A, c, hx⟩
theorem did_len (hM : Mem P C m w G X) {t e : TypeId} (ht : P.underlying t = some (.slice e)) {v : V} {n : Nat} (h : lenV m v = some n) {ρ : Operand → Value} {o : Oper} {x : Operand} (ho : o.op = .call { callee := .builtin .len, args := #[x], argTypes := #[t] }) (hv : V.Is G X v (ρ x)) :
    Did P C m G X ((execOp ρ o).run P w) (.t (.sc (.int .i64 n))) [] := by
  obtain ⟨A, c, hx⟩ := lenV_is hM h hv
  have : (execOp ρ o).run P w = .ok (.value (.int .i64 n)) w := by
    simp [execOp, ho, resolve, invoke, builtin, Builtin.len_, run_underlying ht, hx, goInt]
  rw [this]
  exact did_value hM (by rw [V.Is, T.Is]; rfl)
theorem did_len_str (hM : Mem P C m w G X) {t : TypeId} (ht : P.underlying t = some .string) {s : ByteArray} {ρ : Operand → Value} {o : Oper} {x : Operand} (ho : o.op = .call { callee := .builtin .len, args := #[x], argTypes := #[t] }) (hv : ρ x = .string s) :
    Did P C m G X ((execOp ρ o).run P w) (.t (.sc (.int .i64 s.size))) [] := by
  have : (execOp ρ o).run P w = .ok (.value (.int .i64 s.size)) w := by
    simp [execOp, ho, resolve, invoke, builtin, Builtin.len_, run_underlying ht, hv, goInt]
  rw [this]
  exact did_value hM (by rw [V.Is, T.Is]; rfl)
end ops
end Go.Abs
