/- The effect of slice literals, make, slicing and conversions. -/
import Derived.Test.YtgicgbokgmmgdaaAbsG
import Derived.IntWalk
set_option linter.unusedSimpArgs false
set_option linter.unusedVariables false
namespace Go.Abs

section ops
variable {P : Program} {C : Cx} {m : Nat → Ob} {w : World} {G : Im} {X : Xm}

/-- n rows of zeros. -/
theorem zero_rows {zs : List V} {zt : List T} {z : Array Value} (hz : V.IsL G X zs z.toList) (hzt : ∀ (m' : Nat → Ob), toTs m' zs = some zt) (hM : Mem P C m w G X) (hpure : zs.flatMap fz = []) {sz : Nat} (hs : z.size = sz) (h0 : 0 < sz) (n : Nat) :
    T.Rows G sz (List.replicate n zt) ((Array.range (n * sz)).map (fun x => z[x % z.size]!)).toList ∧ ((Array.range (n * sz)).map (fun x => z[x % z.size]!)).size = n * sz := by
  obtain ⟨hl, hc⟩ := toTs_is hM (hzt m) (fun k hk => by rw [hpure] at hk; simp at hk) hz
  have hzl : zt.length = sz := by rw [hl]; simpa using hs
  refine ⟨T.Rows.of_get fun i r hr => ?_, by simp⟩
  rw [List.getElem?_replicate] at hr
  split at hr
  · rename_i hi
    cases hr
    refine ⟨hzl, T.Cells.of_get fun j t ht => ?_⟩
    obtain ⟨y, hy, hiy⟩ := hc.get j t ht
    have hj : j < sz := by have := (List.getElem?_eq_some_iff.1 ht).1; omega
    have hmul : (i + 1) * sz ≤ n * sz := Nat.mul_le_mul_right _ (by omega)
    rw [Nat.add_mul, Nat.one_mul] at hmul
    refine ⟨y, ?_, hiy⟩
    rw [List.getElem?_drop]
    simp only [Array.toList_map, Array.toList_range, List.getElem?_map, List.getElem?_range (show i * sz + j < n * sz by omega), Option.map_some]
    congr 1
    rw [hs, show (i * sz + j) % sz = j by rw [Nat.mul_comm, Nat.mul_add_mod]; exact Nat.mod_eq_of_lt hj]
    simp at hy
    have hjz : j < z.size := by omega
    rw [getElem!_pos z j hjz]
    rw [Array.getElem?_eq_getElem hjz] at hy
    simpa using hy
  · cases hr

/-- Of an element's type: its zero cells, as pure values. -/
def zrow (P : Program) (e : TypeId) : Option (List T) :=
  match zcells P e with
  | some zs => if zs.flatMap fz = [] then toTs (fun _ => .no) zs else none
  | none => none
theorem toTs_pure : ∀ {zs : List V} (m m' : Nat → Ob), zs.flatMap fz = [] → toTs m zs = toTs m' zs
  | [], _, _, _ => rfl
  | v :: vs, m, m', h => by
    rw [List.flatMap_cons, List.append_eq_nil_iff] at h
    have : toT m v = toT m' v := by cases v <;> simp [fz] at h <;> rfl
    simp only [toTs, this, toTs_pure m m' h.2]

/-- Rows are put into their places. -/
def arows (m : Nat → Ob) (sz : Nat) : List (List T) → List (Nat × V) → Option (List (List T))
  | es, [] => some es
  | es, (i, v) :: r => if boxable v = true ∧ i < es.length then match toTs m (vcells v) with
    | some ts => if ts.length = sz then arows m sz (es.set i ts) r else none
    | none => none
    else none

theorem rows_fill {sz : Nat} (hM : Mem P C m w G X) : ∀ {parts : List (Nat × V)} {xs : List (Nat × Value)} {es fs : List (List T)} {cells : Array Value}, T.Rows G sz es cells.toList → cells.size = es.length * sz → (∀ r ∈ es, r.length = sz) →
    (∀ k ∈ parts.flatMap (fun p => (vcells p.2).flatMap fz), unmut m k) →
    xs.length = parts.length → (∀ (j i : Nat) (v : V), parts[j]? = some (i, v) → ∃ x, xs[j]? = some (i, x) ∧ V.Is G X v x) → arows m sz es parts = some fs →
    ∃ cells', Instr.fill (fun i => some (i * sz, sz)) cells xs = some cells' ∧ T.Rows G sz fs cells'.toList ∧ cells'.size = fs.length * sz ∧ fs.length = es.length
  | [], xs, es, fs, cells, hr, hs, _, _, hlen, _, h => by
    simp [arows] at h; subst h
    have : xs = [] := List.eq_nil_of_length_eq_zero (by simpa using hlen)
    subst this
    exact ⟨cells, by simp [Instr.fill], hr, hs, rfl⟩
  | (i, v) :: r, xs, es, fs, cells, hr, hs, hall, hun, hlen, hp, h => by
    obtain ⟨⟨i', x⟩, xs', rfl⟩ : ∃ y ys, xs = y :: ys := by cases xs <;> simp at hlen; exact ⟨_, _, rfl⟩
    obtain ⟨x', hx', hi⟩ := hp 0 i v rfl
    simp at hx'; obtain ⟨rfl, rfl⟩ := hx'
    unfold arows at h
    split at h
    · rename_i hc
      obtain ⟨hb, hlt⟩ := hc
      cases hts : toTs m (vcells v) with
      | none => rw [hts] at h; simp at h
      | some ts =>
        rw [hts] at h
        simp only at h
        split at h
        · rename_i htl
          have hvc := vcells_is hi (boxable_is hb) hM.cell
          obtain ⟨h1, h2⟩ := toTs_is hM hts (fun k hk => hun k (by simp; left; simpa using hk)) hvc
          have hxl : x.cells.toList.length = sz := by omega
          have hmul : (i' + 1) * sz ≤ es.length * sz := Nat.mul_le_mul_right _ (by omega)
          rw [Nat.add_mul, Nat.one_mul] at hmul
          have hset := set_fold [] x.cells.toList (i' * sz) 0 cells (by simp at hxl ⊢; omega)
          have hfold : (x.cells.zipIdx.foldl (fun cs (p : Value × Nat) => cs.setIfInBounds (i' * sz + p.2) p.1) cells).toList = splice cells.toList (i' * sz) x.cells.toList := by
            rw [← Array.foldl_toList, Array.toList_zipIdx]; simpa using hset
          have hrow : es[i']? = some es[i'] := List.getElem?_eq_getElem hlt
          have hsetr := hr.set (off := 0) (ts := ts) (ys := x.cells.toList) hrow (hall _ (List.getElem_mem hlt)) (by omega) h2 (by omega) (by simpa using hs)
          have hsp0 : splice es[i'] 0 ts = ts := by
            unfold splice
            rw [List.take_zero, List.nil_append, List.drop_of_length_le (by have := hall _ (List.getElem_mem hlt); omega), List.append_nil]
          rw [hsp0, Nat.add_zero] at hsetr
          obtain ⟨cells', g1, g2, g3, g4⟩ := rows_fill hM (cells := x.cells.zipIdx.foldl (fun cs (p : Value × Nat) => cs.setIfInBounds (i' * sz + p.2) p.1) cells) (xs := xs') (by rw [hfold]; exact hsetr)
            (by rw [← Array.length_toList, hfold, splice_length _ _ _ (by simp at hxl ⊢; omega)]; simpa using hs)
            (fun q hq => by
              rcases List.mem_or_eq_of_mem_set hq with hq | rfl
              · exact hall q hq
              · exact htl)
            (fun k hk => hun k (by simp; right; simpa using hk)) (by simpa using hlen)
            (fun j i v hj => by
              obtain ⟨x, hx, hi⟩ := hp (j + 1) i v (by simpa using hj)
              exact ⟨x, by simpa using hx, hi⟩) h
          refine ⟨cells', ?_, g2, g3, by simpa using g4⟩
          rw [Instr.fill]
          simp only
          simp at hxl
          rw [if_neg (by simp; omega)]
          exact g1
        · cases h
    · cases h

theorem did_buildSlice (hM : Mem P C m w G X) {id : Nat} (hid : m id = .no) {t e : TypeId} {by' sz n : Nat} {parts : Array (Nat × Operand)} {zt : List T} {fs : List (List T)} (ht : apOf P t = some (e, by', sz)) (hz : zrow P e = some zt) (hzl : zt.length = sz) (hn : n * sz ≤ 16777216) {E : Operand → V}
    (hf : arows m sz (List.replicate n zt) (parts.toList.map fun p => (p.1, E p.2)) = some fs) (hfz : id ∉ (parts.toList.map fun p => (p.1, E p.2)).flatMap (fun p => (vcells p.2).flatMap fz)) {ρ : Operand → Value} {o : Oper} (ho : o.op = .buildSlice t n parts) (hE : ∀ x, V.Is G X (E x) (ρ x)) :
    Did P C m G X ((execOp ρ o).run P w) (.ar id) (fzU m ((parts.toList.map fun p => (p.1, E p.2)).flatMap (fun p => (vcells p.2).flatMap fz)) ++ [(id, .arr fs e true)]) := by
  obtain ⟨i, z, hu, hi, hzz, hzs, hby, hsz, hb0, hs0⟩ := apOf_spec ht
  generalize hks : (parts.toList.map fun p => (p.1, E p.2)).flatMap (fun p => (vcells p.2).flatMap fz) = ks at hfz ⊢
  obtain ⟨G1, hG1, hM1⟩ := hM.freezeL ks
  unfold zrow at hz
  cases hzc : zcells P e with
  | none => rw [hzc] at hz; simp at hz
  | some zs =>
    rw [hzc] at hz
    simp only at hz
    split at hz
    · rename_i hpure
      have hzV : V.IsL G1 X zs z.cells.toList := by
        unfold zcells at hzc
        rw [hi] at hzc; simp [hzz] at hzc
        exact zSs_is G1 X hzc
      obtain ⟨hrows, hsize⟩ := zero_rows hzV (fun m' => by rw [toTs_pure m' (fun _ => .no) hpure]; exact hz) hM1 hpure (sz := sz) (by rw [← hsz]; exact hzs) hs0 n
      have harows : ∀ (parts : List (Nat × V)) (es : List (List T)), arows (app m (fzU m ks)) sz es parts = arows m sz es parts := by
        intro parts
        induction parts with
        | nil => intro es; rfl
        | cons p r ih => obtain ⟨i, v⟩ := p; intro es; simp only [arows, toTs_fz, ih]
      rw [← harows] at hf
      obtain ⟨cells, h1, h2, h3, h4⟩ := rows_fill hM1 (xs := parts.toList.map fun p => (p.1, ρ p.2)) hrows (by rw [hsize]; simp) (fun r hr => by rw [List.eq_of_mem_replicate hr]; exact hzl) (fun k hk => by rw [hks] at hk; exact unmut_fzU _ _ _ (.inr hk)) (by simp)
        (fun j i v hj => by
          rw [List.getElem?_map] at hj
          cases hq : parts.toList[j]? with
          | none => rw [hq] at hj; simp at hj
          | some p => rw [hq] at hj; simp at hj; obtain ⟨rfl, rfl⟩ := hj; exact ⟨ρ p.2, by rw [List.getElem?_map, hq]; rfl, V.Is.mono hG1 (Xle.refl X) _ _ (hE _)⟩) hf
      have hfn : fs.length = n := by simpa using h4
      have hno : app m (fzU m ks) id = .no := by
        have keep : ∀ (ks : List Nat) (m : Nat → Ob) (j : Nat), j ∉ ks → app m (fzU m ks) j = m j := by
          intro ks
          induction ks with
          | nil => intro m j _; rfl
          | cons q ks ih =>
            intro m j hk
            simp at hk
            unfold fzU
            split
            · rw [app, ih _ _ hk.2, upd_ne _ _ _ hk.1]
            · exact ih m j hk.2
        rw [keep _ _ _ hfz]; exact hid
      have hmax : fs.length ≤ maxLen := by
        have : fs.length ≤ n * sz := by rw [hfn]; exact Nat.le_mul_of_pos_right _ hs0
        simp only [maxLen]; omega
      subst hsz
      obtain ⟨hM2, hX2⟩ := hM1.newArr hno cells e i hi fs h2 (by simpa using h3) hmax
      refine ⟨.value (.slice (some ⟨w.heap.size, 0, none⟩) fs.length fs.length), _, _, G1, _, ?_, .inl rfl, hG1, hX2, by rw [app_append]; exact hM2, by rw [V.Is]; exact upd_same _ _ _⟩
      have hbig : ¬ (n * i.size > 2 ^ 24) := by omega
      by_cases h0 : n * i.size = 0
      · have hn0 : n = 0 := by rcases Nat.mul_eq_zero.1 h0 with h | h; exact h; omega
        subst hn0
        have h1' : Instr.fill (fun x => some (x * i.size, i.size)) #[] (parts.toList.map fun p => (p.1, ρ p.2)) = some cells := by
          have := h1; simp only [Nat.zero_mul, Array.range_zero', List.map_toArray, List.map_nil] at this; exact this
        simp only [execOp, ho, Instr.buildSlice, run_underlying hu, sizeOf, typeInfo, hi, Nat.zero_mul, Array.range_zero', Sem.run_bind, Result.andThen_ok, Sem.run_pure, run_program]
        simp [typeInfo, hi, h1', newRow, hfn]
      · simp [execOp, ho, Instr.buildSlice, run_underlying hu, sizeOf, typeInfo, zeroValue, hi, hzz, hbig, h0, h1, newRow, hfn]
    · cases hz

theorem did_makeSlice (hM : Mem P C m w G X) {id : Nat} (hid : m id = .no) {t e : TypeId} {by' sz : Nat} {zt : List T} (ht : apOf P t = some (e, by', sz)) (hz : zrow P e = some zt) (hzl : zt.length = sz) {k k' : IntKind} {n : Nat} (hn : n * by' ≤ 140737488355328)
    {ρ : Operand → Value} {o : Oper} {x y : Operand} (ho : o.op = .makeSlice t x y) (hx : ρ x = .int k n) (hy : ρ y = .int k' n) :
    Did P C m G X ((execOp ρ o).run P w) (.ar id) [(id, .arr (List.replicate n zt) e true)] := by
  obtain ⟨i, z, hu, hi, hzz, hzs, hby, hsz, hb0, hs0⟩ := apOf_spec ht
  unfold zrow at hz
  cases hzc : zcells P e with
  | none => rw [hzc] at hz; simp at hz
  | some zs =>
    rw [hzc] at hz
    simp only at hz
    split at hz
    · rename_i hpure
      have hzV : V.IsL G X zs z.cells.toList := by
        unfold zcells at hzc
        rw [hi] at hzc; simp [hzz] at hzc
        exact zSs_is G X hzc
      obtain ⟨hrows, hsize⟩ := zero_rows hzV (fun m' => by rw [toTs_pure m' (fun _ => .no) hpure]; exact hz) hM hpure (sz := sz) (by rw [← hsz]; exact hzs) hs0 n
      have hnb : n ≤ n * by' := Nat.le_mul_of_pos_right _ hb0
      have hmax : (List.replicate n zt).length ≤ maxLen := by simp only [List.length_replicate, maxLen]; omega
      subst hsz
      obtain ⟨hM2, hX2⟩ := hM.newArr hid _ e i hi _ hrows (by simp) hmax
      refine ⟨.value (.slice (some ⟨w.heap.size, 0, none⟩) n n), _, _, G, _, ?_, .inl rfl, Gle.refl G, hX2, hM2, by rw [V.Is]; simp [upd_same]⟩
      have hw : IntKind.i64.wrap (n : Int) = n := IntWalk.i64_in _ (by omega)
      have hneg : ¬ ((n : Int) < 0) := by omega
      subst hby
      have hb2 : ¬ ((281474976710656 : Int) < (i.bytes : Int) * (n : Int)) := by
        have : ((i.bytes * n : Nat) : Int) ≤ 140737488355328 := by rw [Nat.mul_comm]; omega
        rw [Int.natCast_mul] at this; omega
      by_cases h0 : n * i.size = 0
      · have hn0 : n = 0 := by rcases Nat.mul_eq_zero.1 h0 with h | h; exact h; omega
        subst hn0
        have hw0 : IntKind.i64.wrap 0 = 0 := by simpa using hw
        simp [execOp, ho, hx, hy, Instr.makeSlice, run_underlying hu, asInt, asIntOf, sizeOf, typeInfo, zeroValue, hi, hzz, hw0, newRow, Array.range_zero']
      · simp [execOp, ho, hx, hy, Instr.makeSlice, run_underlying hu, asInt, asIntOf, sizeOf, typeInfo, zeroValue, hi, hzz, hw, hb2, h0, hneg, newRow]
    · cases hz
end ops
end Go.Abs
