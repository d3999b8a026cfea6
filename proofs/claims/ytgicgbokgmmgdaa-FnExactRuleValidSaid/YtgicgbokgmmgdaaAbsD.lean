/- What each operation computes, on pure values and references. -/
import Derived.Test.YtgicgbokgmmgdaaAbsC
import Derived.Laws.Strings
import Derived.Laws.BytesString
set_option linter.unusedVariables false
set_option linter.unusedSimpArgs false
namespace Go.Abs

/-! ### scalars -/
theorem str_eq (a b : ByteArray) : (a.toList == b.toList) = decide (a = b) := by
  rw [ByteArray.toList_eq, ByteArray.toList_eq]
  by_cases h : a = b
  · subst h; simp
  · simp only [h, decide_false, beq_eq_false_iff_ne, ne_eq]
    intro h2
    apply h
    cases a; cases b
    simp at h2
    exact congrArg ByteArray.mk h2

def abin (op : BinOp) : S → S → Option S
  | .int k a, .int k' b =>
    if k = k' then
      match op with
      | .add => some (.int k (k.wrap (a + b)))
      | .sub => some (.int k (k.wrap (a - b)))
      | .mul => some (.int k (k.wrap (a * b)))
      | .quo => if b = 0 then none else some (.int k (k.wrap (a.tdiv b)))
      | .rem => if b = 0 then none else some (.int k (a.tmod b))
      | .xor => some (.int k (k.wrap (BitVec.ofInt k.bits a ^^^ BitVec.ofInt k.bits b).toNat))
      | .eql => some (.bool (decide (a = b)))
      | .neq => some (.bool (decide (a ≠ b)))
      | .lss => some (.bool (decide (a < b)))
      | .leq => some (.bool (decide (a ≤ b)))
      | .gtr => some (.bool (decide (b < a)))
      | .geq => some (.bool (decide (b ≤ a)))
      | _ => none
    else none
  | .str a, .str b =>
    match op with
    | .add => if a.size + b.size ≤ 9223372036854775807 then some (.str (a ++ b)) else none
    | .eql => some (.bool (decide (a = b)))
    | .neq => some (.bool (decide (a ≠ b)))
    | _ => none
  | _, _ => none

theorem abin_sound {P : Program} {op : BinOp} {s1 s2 s : S} (h : abin op s1 s2 = some s) (t : TypeId) (x y : Operand) (w : World) :
    (do eqGuard op t x y s1.v s2.v; binOp op t s1.v s2.v).run P w = .ok s.v w := by
  cases s1 <;> cases s2 <;> simp [abin] at h
  · rename_i k a k' b
    obtain ⟨rfl, h⟩ := h
    cases op <;> simp at h <;> (first | subst h | (obtain ⟨h0, h⟩ := h; subst h)) <;>
      simp [S.v, eqGuard, binOp, Op.intArith, Op.intCmp, Op.intDiv, Op.intBits, *]
    all_goals (first | rfl | (congr 1; simp [bne, BEq.beq]))
  · rename_i a b
    cases op <;> simp at h <;> (first | subst h | (obtain ⟨h0, h⟩ := h; subst h)) <;>
      simp [S.v, eqGuard, binOp, Op.stringOp, str_eq, *]
    all_goals (first | rfl | omega | (rw [if_neg (by omega)]))

/-- Two bools compared. -/
def abool (P : Program) (op : BinOp) (t : TypeId) : S → S → Option S
  | .bool a, .bool b =>
    match P.underlying t, op with
    | some .bool, .eql => some (.bool (decide (a = b)))
    | some .bool, .neq => some (.bool (decide (a ≠ b)))
    | _, _ => none
  | _, _ => none
theorem abool_sound {P : Program} {op : BinOp} {t : TypeId} {s1 s2 s : S} (h : abool P op t s1 s2 = some s) (x y : Operand) (w : World) :
    (do eqGuard op t x y s1.v s2.v; binOp op t s1.v s2.v).run P w = .ok s.v w := by
  cases s1 <;> cases s2 <;> simp [abool] at h
  rename_i a b
  have hu : P.underlying t = some .bool := by
    split at h <;> simp_all
  have eq : (Op.equal t (.bool a) (.bool b)).run P w = .ok (a == b) w := by
    have h : ∀ d : Nat, (Op.equalIn (d + 1) t (.bool a) (.bool b)).run P w = .ok (a == b) w := fun d => by simp [Op.equalIn, run_underlying hu]
    exact h 9999
  cases op <;> simp [hu] at h <;> subst h <;> simp [S.v, eqGuard, binOp, eq]
  all_goals (cases a <;> cases b <;> rfl)

def aun (op : UnOp) : S → Option S
  | .int k n => match op with
    | .neg => some (.int k (k.wrap (0 - n)))
    | _ => none
  | .bool b => match op with
    | .not => some (.bool (!b))
    | _ => none
  | _ => none
theorem aun_sound {P : Program} {op : UnOp} {s1 s : S} (h : aun op s1 = some s) (w : World) : (Op.unary op s1.v).run P w = .ok s.v w := by
  cases s1 <;> cases op <;> simp [aun] at h <;> subst h <;> simp [S.v, Op.unary, Op.intArith]

/-! ### operands -/
def ofS : Value → V
  | .int k n => .t (.sc (.int k n))
  | .string s => .t (.sc (.str s))
  | .bool b => .t (.sc (.bool b))
  | .pointer none => .t (.sc .nip)
  | .nilIface => .t (.sc .nii)
  | .nilFunc => .t (.sc .nif)
  | .map none => .t (.sc .nim)
  | .slice none 0 0 => .nl
  | _ => .jk
def ofVal : Value → V
  | .agg cs => .ag (cs.toList.map ofS)
  | v => ofS v
theorem ofS_is (G : Im) (X : Xm) (v : Value) : V.Is G X (ofS v) v := by
  unfold ofS
  split <;> simp [V.Is, T.Is, S.v]
theorem ofVal_is (G : Im) (X : Xm) (v : Value) : V.Is G X (ofVal v) v := by
  unfold ofVal
  split
  · rename_i cs
    rw [V.Is]
    refine ⟨cs, rfl, V.IsL.of_get (by simp) fun j u hu => ?_⟩
    rw [List.getElem?_map] at hu
    cases hj : cs.toList[j]? with
    | none => simp [hj] at hu
    | some y => simp [hj] at hu; subst hu; exact ⟨y, rfl, ofS_is G X y⟩
  · exact ofS_is G X v

def ev (n : Nat) (s : Nat → V) : Operand → V
  | .tmp t => if t < n then s t else .jk
  | .const v => ofVal v
  | .global _ => .jk
  | .func f => .fn f []

theorem ev_is {G : Im} {X : Xm} {n : Nat} {s : Nat → V} {a : Act} (h : ∀ t, t < n → V.Is G X (s t) (a.eval (.tmp t))) (o : Operand) : V.Is G X (ev n s o) (a.eval o) := by
  cases o with
  | tmp t =>
    rw [ev]
    by_cases ht : t < n
    · rw [if_pos ht]; exact h t ht
    · rw [if_neg ht]; trivial
  | const v => exact ofVal_is G X v
  | global g => trivial
  | func f => rw [ev, V.Is]; exact ⟨#[], rfl, rfl⟩

/-! ### cells -/
def vcells : V → List V
  | .ag cs => cs
  | v => [v]
theorem vcells_is {G : Im} {X : Xm} {v : V} {x : Value} (h : V.Is G X v x) (hv : v.one = true ∨ ∃ cs, v = .ag cs) (hX : ∀ k y, X k = some y → y.oneCell' = true) : V.IsL G X (vcells v) x.cells.toList := by
  rcases hv with hv | ⟨cs, rfl⟩
  · have h1 := h.one hv hX
    have : x.cells = #[x] := by cases x <;> simp [Value.oneCell'] at h1 <;> rfl
    rw [this]
    have : vcells v = [v] := by cases v <;> simp [V.one] at hv <;> rfl
    rw [this]
    exact ⟨x, [], rfl, h, rfl⟩
  · rw [V.Is] at h
    obtain ⟨xs, rfl, h⟩ := h
    exact h

def szOf (P : Program) (t : TypeId) : Option Nat := (P.info? t).map (·.size)
def aggOf (P : Program) (t : TypeId) : Option Bool :=
  match P.underlying t with
  | some (.struct _) | some (.array _ _) => some true
  | some _ => some false
  | none => none
theorem run_agg {P : Program} {t : TypeId} {b : Bool} (h : aggOf P t = some b) (w : World) : (isAgg t).run P w = .ok b w := by
  unfold aggOf at h
  cases hu : P.underlying t with
  | none => rw [hu] at h; cases h
  | some d =>
    rw [hu] at h
    cases d <;> simp at h <;> subst h <;> simp [isAgg, run_underlying hu]
theorem run_size {P : Program} {t : TypeId} {n : Nat} (h : szOf P t = some n) (w : World) : (sizeOf t).run P w = .ok n w := by
  unfold szOf at h
  cases hi : P.info? t with
  | none => rw [hi] at h; cases h
  | some i => rw [hi] at h; simp at h; subst h; simp [sizeOf, typeInfo, hi]

/-- What a load of type t finds at a pointer before these cells. -/
def takeT (P : Program) (t : TypeId) (cells : List V) : Option V :=
  match aggOf P t with
  | some true => match szOf P t with
    | some n => if n ≤ cells.length then some (.ag (cells.take n)) else none
    | none => none
  | some false => cells.head?
  | none => none

theorem cell_at {w : World} {b : Nat} {cur : Array Value} {e : TypeId} {fr : Nat × Nat} (hw : w.heap[b]? = some (.cells cur e fr)) (o : Nat) : w.cell? ⟨b, o, none⟩ = cur.toList[o]? := by
  simp [World.cell?, hw]

theorem run_load_is {P : Program} {G : Im} {X : Xm} {t : TypeId} {cells : List V} {v : V} (h : takeT P t cells = some v) {w : World} {b o : Nat} {cur : Array Value} {e : TypeId} {fr : Nat × Nat}
    (hw : w.heap[b]? = some (.cells cur e fr)) (hc : V.At G X cells (cur.toList.drop o)) : ∃ x, (Instr.loadAt t (.pointer (some ⟨b, o, none⟩))).run P w = .ok x w ∧ V.Is G X v x := by
  unfold takeT at h
  cases ha : aggOf P t with
  | none => rw [ha] at h; cases h
  | some ag =>
    rw [ha] at h
    have hra := run_agg (w := w) ha
    cases ag with
    | true =>
      cases hs : szOf P t with
      | none => rw [hs] at h; cases h
      | some n =>
        rw [hs] at h
        simp only at h
        split at h
        · rename_i hn
          cases h
          have hrs := run_size (w := w) hs
          have hlen : n ≤ (cur.toList.drop o).length := by
            rcases Nat.lt_or_ge (cur.toList.drop o).length n with hlt | hge
            · obtain ⟨x, hx, _⟩ := hc (cur.toList.drop o).length (cells[(cur.toList.drop o).length]'(by omega)) (List.getElem?_eq_getElem (by omega))
              rw [List.getElem?_eq_none (Nat.le_refl _)] at hx; cases hx
            · exact hge
          have hl := run_loadCells_list (P := P) w ⟨b, o, none⟩ ((cur.toList.drop o).take n) (fun j u hu => by
            rw [List.getElem?_take] at hu
            split at hu
            · rw [List.getElem?_drop] at hu
              rw [Addr.add_lit, cell_at hw]; exact hu
            · cases hu)
          rw [show ((cur.toList.drop o).take n).length = n by rw [List.length_take]; omega] at hl
          refine ⟨_, by simp [Instr.loadAt, Instr.sureAddr, loadVar, hra, hrs, hl]; rfl, ?_⟩
          rw [V.Is]
          refine ⟨_, rfl, V.IsL.of_get (by simp only [List.length_take]; omega) fun j u hu => ?_⟩
          rw [List.getElem?_take] at hu
          split at hu
          · rename_i hj
            obtain ⟨x, hx, hi⟩ := hc j u hu
            exact ⟨x, by simp only [List.getElem?_take, if_pos hj]; exact hx, hi⟩
          · cases hu
        · cases h
    | false =>
      simp only at h
      obtain ⟨x, hx, hi⟩ := hc 0 v (by rw [← List.head?_eq_getElem?]; exact h)
      rw [List.getElem?_drop, Nat.add_zero] at hx
      exact ⟨x, by simp [Instr.loadAt, Instr.sureAddr, loadVar, hra, cell_at hw, hx], hi⟩

/-- The cells that lie behind a pointer. -/
def cellsAt (m : Nat → Ob) : V → Option (List V)
  | .pe cs => some (cs.map V.t)
  | .rf k off => match m k with
    | .box cs => some (cs.drop off)
    | _ => none
  | .re k i sz off => match m k with
    | .arr es _ _ => match es[i]? with
      | some r => if r.length = sz then some ((r.drop off).map V.t) else none
      | none => none
    | _ => none
  | _ => none

theorem cellsAt_is {P : Program} {C : Cx} {m : Nat → Ob} {w : World} {G : Im} {X : Xm} (hM : Mem P C m w G X) {p : V} {cells : List V} (h : cellsAt m p = some cells) {x : Value} (hp : V.Is G X p x) :
    ∃ b o cur e fr, x = .pointer (some ⟨b, o, none⟩) ∧ w.heap[b]? = some (.cells cur e fr) ∧ V.At G X cells (cur.toList.drop o) := by
  cases p <;> simp [cellsAt] at h
  · rename_i cs
    subst h
    rw [V.Is] at hp
    obtain ⟨b, off, row, rfl, hg, hc⟩ := hp
    obtain ⟨cur, e, fr, hw, rest, hr⟩ := hM.gok b row hg
    refine ⟨b, off, cur, e, fr, rfl, hw, ?_⟩
    have := T.Cells.mono (Gle.refl G) _ _ _ ((Sub.append row rest).drop off) hc
    rw [← hr] at this
    exact this.at
  · rename_i k off
    cases hm : m k <;> rw [hm] at h <;> simp at h
    rename_i cs
    subst h
    rw [V.Is] at hp
    obtain ⟨b, hX, rfl⟩ := hp
    have ho := hM.ob k _ hX
    rw [hm] at ho
    obtain ⟨b', cur, e, hb, hw, hl, _⟩ := ho
    simp at hb; subst hb
    exact ⟨b, off, cur, e, _, rfl, hw, hl.at off⟩
  · rename_i k i sz off
    cases hm : m k <;> rw [hm] at h <;> simp at h
    rename_i es e md
    cases hr : es[i]? with
    | none => rw [hr] at h; simp at h
    | some r =>
      rw [hr] at h
      simp at h
      obtain ⟨hsz, rfl⟩ := h
      rw [V.Is] at hp
      obtain ⟨b, n, c, hX, rfl⟩ := hp
      have ho := hM.ob k _ hX
      rw [hm] at ho
      obtain ⟨xs, inf, hi, hown, hrows, _⟩ := ho
      rcases hown.2 with ⟨hx, _⟩ | ⟨g, cap, cur, hx, _, hw, hc, _, hcs, htake⟩
      · simp at hx
      · simp at hx
        obtain ⟨rfl, rfl, rfl⟩ := hx
        obtain ⟨h1, h2⟩ := hrows.get i r hr
        refine ⟨b, i * sz + off, cur, e, _, rfl, hw, ?_⟩
        rw [← List.drop_drop]
        have h3 : T.Cells G r (cur.toList.drop (i * inf.size)) := by
          have := T.Cells.mono (Gle.refl G) r (xs.drop (i * inf.size)) (cur.toList.drop (i * inf.size)) (Sub.drop (by
            rw [← htake]; intro j u hu; rw [List.getElem?_take] at hu; split at hu
            · exact hu
            · cases hu) _) h2
          exact this
        rw [← h1, hsz] at h3
        intro j u hu
        have h4 := (h3.at (X := X)) (off + j) u (by rw [List.getElem?_drop] at hu; exact hu)
        obtain ⟨y, hy, hi2⟩ := h4
        exact ⟨y, by rw [List.getElem?_drop]; exact hy, hi2⟩
end Go.Abs
