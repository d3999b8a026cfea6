/- A part of the proof: what the functions that the law calls answer, as pure values. -/
import Derived.Lib.SlicesCompact
import Derived.Sort.Grow
import Derived.Test.YtjmfepncipfenaaDoorKf7e90216a427
set_option linter.unusedSimpArgs false
set_option linter.unusedVariables false
section
set_option linter.unusedVariables false
set_option linter.unusedSimpArgs false
namespace Go.Abs
open Go.Sort
theorem rows_ints {G : Im} {xs : List Int} {l : List Value} : T.Rows G 1 (xs.map rI) l ↔ ∀ (j : Nat) (n : Int), xs[j]? = some n → l[j]? = some (.int .i64 n) := by
  constructor
  · intro h j n hj
    obtain ⟨_, ⟨c, hc, hi⟩, _⟩ := h.get j (rI n) (by rw [List.getElem?_map, hj]; rfl)
    rw [T.Is] at hi; subst hi
    rw [List.getElem?_drop, Nat.mul_one, Nat.add_zero] at hc
    exact hc
  · intro h
    refine T.Rows.of_get fun i r hr => ?_
    rw [List.getElem?_map] at hr
    cases hx : xs[i]? with
    | none => simp [hx] at hr
    | some n =>
      simp [hx] at hr; subst hr
      exact ⟨rfl, ⟨_, by rw [List.getElem?_drop, Nat.mul_one, Nat.add_zero]; exact h i n hx, by rw [T.Is]; rfl⟩, trivial⟩
theorem putRow_same {α : Type} [Inhabited α] (enc : α → Value) (w : World) (b : Nat) (d : Array α) {cur : Array Value} {e : TypeId} {fr : Nat × Nat} (h : w.heap[b]? = some (.cells cur e fr)) :
    (putRow enc w b 0 d).heap[b]? = some (.cells (putCells enc 0 d cur) e fr) := by
  simp [putRow, mapBlock, Array.getElem?_modify, h, onCells]
theorem putRow_other {α : Type} [Inhabited α] (enc : α → Value) (w : World) (b k : Nat) (d : Array α) (h : k ≠ b) : (putRow enc w b 0 d).heap[k]? = w.heap[k]? := by
  simp [putRow, mapBlock, Array.getElem?_modify, Ne.symm h]
theorem putCells_size {α : Type} [Inhabited α] (enc : α → Value) (d : Array α) (cur : Array Value) : (putCells enc 0 d cur).size = cur.size := by simp [putCells]
theorem putCells_at {α : Type} [Inhabited α] (enc : α → Value) (l : List α) (cur : Array Value) (hl : l.length ≤ cur.size) {j : Nat} {n : α} (hj : l[j]? = some n) : (putCells enc 0 l.toArray cur).toList[j]? = some (enc n) := by
  obtain ⟨h1, h2⟩ := List.getElem?_eq_some_iff.1 hj
  simp only [putCells, Array.getElem?_toList, Array.getElem?_mapIdx, List.size_toArray]
  rw [Array.getElem?_eq_getElem (by omega)]
  simp [h1, ← h2]
theorem arr_ints {P : Program} {G : Im} {X : Xm} {w : World} {xs : List Int} {e : TypeId} {x : Value} (h1 : szOf P e = some 1) (h : Ob.Ok P G X w (.arr (xs.map rI) e true) x) :
    ((∃ A, x = .slice A 0 0) ∧ xs = []) ∨ ∃ g cap cur, x = .slice (some ⟨g, 0, none⟩) xs.length (cap + 1) ∧ w.heap[g]? = some (.cells cur e (0, 0)) ∧ g < w.heap.size ∧ xs.length ≤ cap + 1 ∧ cap + 1 ≤ maxLen ∧ cur.size = cap + 1 ∧ (∀ (j : Nat) (n : Int), xs[j]? = some n → cur.toList[j]? = some (.int .i64 n)) ∧ G g = none := by
  obtain ⟨cs, i, hi, hown, hr, hn⟩ := h
  have hi1 : i.size = 1 := by rw [szOf, hi] at h1; simpa using h1
  rw [hi1] at hown hr
  rcases own_cases hown with ⟨hx, h0, _⟩ | ⟨g, cap, cur, rfl, hg, hlt, h4, h5, h6, h7, hsub⟩
  · exact .inl ⟨hx, by simpa using h0⟩
  · rw [List.length_map] at h4
    refine .inr ⟨g, cap, cur, by rw [List.length_map], hg, hlt, h4, h5, by simpa using h6, fun j n hj => ?_, by simpa using hn _ _ _ rfl⟩
    have := rows_ints.1 hr j n hj
    rw [← h7] at this
    rw [List.getElem?_take] at this
    split at this
    · exact this
    · cases this
theorem arr_ints_ok {P : Program} {G : Im} {X : Xm} {w : World} {ys : List Int} {e : TypeId} {g cap : Nat} {cur : Array Value} (h1 : szOf P e = some 1) (hg : w.heap[g]? = some (.cells cur e (0, 0))) (h4 : ys.length ≤ cap) (h5 : cap ≤ maxLen) (h6 : cur.size = cap)
    (hc : ∀ (j : Nat) (n : Int), ys[j]? = some n → cur.toList[j]? = some (.int .i64 n)) (hG : G g = none) : Ob.Ok P G X w (.arr (ys.map rI) e true) (.slice (some ⟨g, 0, none⟩) ys.length cap) := by
  obtain ⟨i, hi, hi1⟩ : ∃ i, P.info? e = some i ∧ i.size = 1 := by
    rw [szOf] at h1
    cases hi : P.info? e with
    | none => simp [hi] at h1
    | some i => exact ⟨i, rfl, by simpa [hi] using h1⟩
  refine ⟨cur.toList.take ys.length, i, hi, ownsZ_of ⟨by rw [hi1]; simp; omega, .inr ⟨g, cap, cur, by simp, Nat.zero_le _, hg, by simpa using h4, h5, by rw [hi1]; simpa using h6, by simp [hi1]⟩⟩, ?_, ?_⟩
  · rw [hi1]
    refine rows_ints.2 fun j n hj => ?_
    rw [List.getElem?_take, if_pos (List.getElem?_eq_some_iff.1 hj).1]
    exact hc j n hj
  · intro a n c ha
    simp at ha
    obtain ⟨rfl, _⟩ := ha
    simpa using hG
theorem arr_capless {P : Program} {G : Im} {X : Xm} {w : World} {e : TypeId} {A : Option Addr} {z : Nat} (h1 : szOf P e = some z) : Ob.Ok P G X w (.arr [] e true) (.slice A 0 0) := by
  obtain ⟨i, hi⟩ : ∃ i, P.info? e = some i := by
    rw [szOf] at h1
    cases hi : P.info? e with
    | none => simp [hi] at h1
    | some i => exact ⟨i, rfl⟩
  exact ⟨[], i, hi, ownsZ_nil _ _ _ _, by simp [T.Rows], fun a n c ha => by simp at ha⟩
theorem has_capless {w : World} {es : List (List T)} {e : TypeId} {md : Bool} {A : Option Addr} {n b : Nat} : ¬ Ob.has w (.arr es e md) (.slice A n 0) b := by
  rw [Ob.has_arr']; rintro ⟨a, n, c, ha, _⟩; simp at ha
theorem holds_ints {w : World} {g : Nat} {e : TypeId} {cur : Array Value} {xs : List Int} (hg : w.heap[g]? = some (.cells cur e (0, 0))) (hc : ∀ (j : Nat) (n : Int), xs[j]? = some n → cur.toList[j]? = some (.int .i64 n)) : Holds (Value.int .i64) w g 0 xs.toArray := by
  intro j hj
  have hj' : j < xs.length := by simpa using hj
  have h1 : xs[j]? = some xs[j] := List.getElem?_eq_getElem hj'
  have h2 : xs.toArray[j]! = xs[j] := by simp [hj']
  rw [h2]
  refine ⟨?_, ?_⟩
  · have := hc j _ h1
    rw [cell_at hg]; simpa using this
  · simp [World.frozen?, hg]
theorem objs_one {k : Nat} {o : Ob} : objs [(k, o)] k = o := by simp [objs]
theorem objs_upd1 {k : Nat} {o o' : Ob} : upd (objs [(k, o)]) k o' = objs [(k, o')] := by
  funext i
  by_cases h : i = k
  · subst h; rw [upd_same]; simp [objs]
  · rw [upd_ne _ _ _ h]; simp [objs, h]
theorem objs_upd2 {k j : Nat} {o o1 o2 : Ob} (hkj : j ≠ k) : upd (upd (objs [(k, o)]) k o1) j o2 = objs [(k, o1), (j, o2)] := by
  funext i
  by_cases h : i = j
  · subst h; rw [upd_same]; simp [objs, hkj]
  · rw [upd_ne _ _ _ h, objs_upd1]; simp [objs, h]
theorem ac_sort {P : Program} {f e : Nat} (xs : List Int) (hfn : ∃ fn, P.funcs[f]? = some fn ∧ fn.body.isSome = true ∧ (fn.name == "runtime.NumGoroutine") = false) (h1 : szOf P e = some 1) (hsz : xs.length < 4611686018427387904)
    (h : ∀ (blk cap : Nat) (w : World), Holds (Value.int .i64) w blk 0 xs.toArray → blk < w.heap.size → Calls P f #[.slice (some ⟨blk, 0, none⟩) xs.length cap] w fun e w' => e = .returned (.tuple #[]) ∧ ∃ n os, w' = grow (putRow (Value.int .i64) (Sort.ahead w n) blk 0 (xs.mergeSort fun x y => decide (x ≤ y)).toArray) os)
    (hnil : ∀ (A : Option Addr) (w : World), Calls P f #[.slice A 0 0] w fun e w' => e = .returned (.tuple #[]) ∧ w' = w) :
    AC P f [.ar 9300] (objs [(9300, .arr (xs.map rI) e true)]) (.tp []) (objs [(9300, .arr ((xs.mergeSort fun x y => decide (x ≤ y)).map rI) e true)]) := by
  refine ⟨hfn, ?_⟩
  intro w G X own ys hM hx
  rw [V.IsL] at hx
  obtain ⟨x, zs, rfl, hx1, hx⟩ := hx
  rw [V.IsL] at hx; subst hx
  rw [V.Is] at hx1
  have ho := hM.ob 9300 x hx1
  rw [objs_one] at ho
  have hrv : ∀ G X, V.Is G X (.tp []) (.tuple #[]) := fun G X => by rw [V.Is]; exact ⟨#[], rfl, by rw [V.IsL]⟩
  have hlen : (xs.mergeSort fun x y => decide (x ≤ y)).length = xs.length := List.length_mergeSort _
  rcases arr_ints h1 ho with ⟨⟨A, rfl⟩, rfl⟩ | ⟨g, cap, cur, rfl, hg, hlt, h4, h5, h6, hc, hG⟩
  · refine (hnil A w).mono ?_
    rintro e' w' ⟨rfl, rfl⟩
    refine ⟨_, G, X, rfl, ?_, hrv _ _⟩
    rw [← objs_upd1 (o := .arr (([] : List Int).map rI) e true)]
    refine hM.rewriteW hx1 _ rfl rfl rfl (Nat.le_refl _) (fun b hb _ => rfl) ?_ (by simp) ?_ ?_
    · intro b hb; rw [objs_one] at hb; exact (has_capless hb).elim
    · intro b hb; exact (has_capless hb).elim
    · rw [List.mergeSort_nil]; exact arr_capless h1
  · refine (h g (cap + 1) w (holds_ints hg hc) hlt).mono ?_
    rintro e' w' ⟨rfl, n, os, rfl⟩
    refine ⟨_, G, X, rfl, ?_, hrv _ _⟩
    rw [← objs_upd1 (o := .arr (xs.map rI) e true)]
    have hsame : (grow (putRow (Value.int .i64) (Sort.ahead w n) g 0 (xs.mergeSort fun x y => decide (x ≤ y)).toArray) os).heap[g]? = some (.cells (putCells (Value.int .i64) 0 (xs.mergeSort fun x y => decide (x ≤ y)).toArray cur) e (0, 0)) := by
      rw [heap_grow_old _ _ (by simpa using hlt)]
      exact putRow_same _ _ _ _ hg
    refine hM.rewriteW hx1 _ rfl rfl rfl (by simp) ?_ ?_ (by simp) ?_ ?_
    · intro b hb hnb
      rw [heap_grow_old _ _ (by simpa using hb), putRow_other _ _ _ _ _ (by rintro rfl; exact hnb (by rw [objs_one]; exact rfl))]
      rfl
    · intro b hb; rw [objs_one] at hb; rw [Ob.has_arr] at hb; subst hb; exact hG
    · intro b hb; rw [objs_one]; exact hb
    · rw [show Value.slice (some ⟨g, 0, none⟩) xs.length (cap + 1) = .slice (some ⟨g, 0, none⟩) (xs.mergeSort fun x y => decide (x ≤ y)).length (cap + 1) by rw [hlen]]
      refine arr_ints_ok h1 hsame (by rw [hlen]; exact h4) h5 (by rw [putCells_size]; exact h6) (fun j n hj => putCells_at _ _ _ (by rw [hlen]; omega) hj) hG
theorem compact_len (xs : List Int) : (Lib.compact xs).length ≤ xs.length := by
  unfold Lib.compact Lib.compactUpTo
  rw [List.length_map]
  exact Nat.le_trans (List.length_filter_le _ _) (by simp)
theorem compact_nil : Lib.compact ([] : List Int) = [] := rfl
theorem ac_compact {P : Program} {f e : Nat} (xs : List Int) (hfn : ∃ fn, P.funcs[f]? = some fn ∧ fn.body.isSome = true ∧ (fn.name == "runtime.NumGoroutine") = false) (h1 : szOf P e = some 1)
    (h : ∀ (blk cap : Nat) (w : World), Holds (Value.int .i64) w blk 0 xs.toArray → xs.length ≤ 9223372036854775807 → xs.length ≤ cap → Calls P f #[.slice (some ⟨blk, 0, none⟩) xs.length cap] w fun e w' => e = .returned (.slice (some ⟨blk, 0, none⟩) (Lib.compact xs).length cap) ∧ ∃ q, w' = putRow (Value.int .i64) (Sort.ahead w q) blk 0 (Lib.compact xs ++ List.replicate (xs.length - (Lib.compact xs).length) 0).toArray)
    (hnil : ∀ (A : Option Addr) (w : World), Calls P f #[.slice A 0 0] w fun e w' => e = .returned (.slice A 0 0) ∧ w' = w) :
    AC P f [.ar 9300] (objs [(9300, .arr (xs.map rI) e true)]) (.ar 9200) (objs [(9300, .dead), (9200, .arr ((Lib.compact xs).map rI) e true)]) := by
  refine ⟨hfn, ?_⟩
  intro w G X own ys hM hx
  rw [V.IsL] at hx
  obtain ⟨x, zs, rfl, hx1, hx⟩ := hx
  rw [V.IsL] at hx; subst hx
  rw [V.Is] at hx1
  have ho := hM.ob 9300 x hx1
  rw [objs_one] at ho
  have hle := compact_len xs
  rcases arr_ints h1 ho with ⟨⟨A, rfl⟩, rfl⟩ | ⟨g, cap, cur, rfl, hg, hlt, h4, h5, h6, hc, hG⟩
  · refine (hnil A w).mono ?_
    rintro e' w' ⟨rfl, rfl⟩
    have := hM.renew (w' := w') (id := 9200) (x' := .slice A 0 0) hx1 rfl (.arr ((Lib.compact ([] : List Int)).map rI) e true) rfl rfl rfl (Nat.le_refl _) (fun b hb _ => rfl) ?_ (by simp) ?_ ?_ rfl
    · rw [objs_upd2 (by decide)] at this
      exact ⟨_, G, _, rfl, this.1, by rw [V.Is, upd_same]⟩
    · intro b hb; rw [objs_one] at hb; exact (has_capless hb).elim
    · intro b hb; exact (has_capless hb).elim
    · rw [compact_nil]; exact arr_capless h1
  · refine (h g (cap + 1) w (holds_ints hg hc) (by unfold maxLen at h5; omega) h4).mono ?_
    rintro e' w' ⟨rfl, n, rfl⟩
    have hln : (Lib.compact xs ++ List.replicate (xs.length - (Lib.compact xs).length) (0 : Int)).length = xs.length := by rw [List.length_append, List.length_replicate]; omega
    have := hM.renew (w' := putRow (Value.int .i64) (Sort.ahead w n) g 0 (Lib.compact xs ++ List.replicate (xs.length - (Lib.compact xs).length) 0).toArray) (id := 9200) (x' := .slice (some ⟨g, 0, none⟩) (Lib.compact xs).length (cap + 1)) hx1 rfl (.arr ((Lib.compact xs).map rI) e true) rfl rfl rfl (by simp) ?_ ?_ (by simp) ?_ ?_ rfl
    · rw [objs_upd2 (by decide)] at this
      exact ⟨_, G, _, rfl, this.1, by rw [V.Is, upd_same]⟩
    · intro b hb hnb
      rw [putRow_other _ _ _ _ _ (by rintro rfl; exact hnb (by rw [objs_one]; exact rfl))]; rfl
    · intro b hb; rw [objs_one] at hb; rw [Ob.has_arr] at hb; subst hb; exact hG
    · intro b hb; rw [Ob.has_arr] at hb; subst hb; exact .inl (by rw [objs_one]; exact rfl)
    · refine arr_ints_ok h1 (putRow_same _ _ _ _ hg) (by omega) h5 (by rw [putCells_size]; exact h6) (fun j n hj => putCells_at _ _ _ (by rw [hln]; omega) ?_) hG
      rw [List.getElem?_append_left (List.getElem?_eq_some_iff.1 hj).1]; exact hj
end Go.Abs
end
section
set_option linter.unusedSimpArgs false
set_option linter.unusedVariables false
namespace Go.Abs
section
variable {P : Program} {C : Cx} {n : Nat} {s : Nat → V} {m : Nat → Ob} {w : World} {G : Im} {X : Xm}
theorem Mem.newCapless (h : Mem P C m w G X) {id : Nat} (hid : m id = .no) {e : TypeId} {i : TypeInfo} (hi : P.info? e = some i) (A : Option Addr) :
    Mem P C (upd m id (.arr [] e true)) w G (upd X id (some (.slice A 0 0))) ∧ Xle X (upd X id (some (.slice A 0 0))) := by
  have hX : X id = none := (h.free id).2 hid
  refine ⟨⟨h.gle, h.gold, h.gok, h.keeps, ?_, ?_, ?_, ?_, ?_, fun k y hk => Xle_upd hX k y (h.old k y hk)⟩, Xle_upd hX⟩
  · intro k y hy
    by_cases hk : k = id
    · subst hk; rw [upd_same] at hy ⊢; cases hy
      exact ⟨[], i, hi, ownsZ_nil w e i.size A, by rw [T.Rows]; trivial, fun a n c ha => by simp at ha⟩
    · rw [upd_ne _ _ _ hk] at hy ⊢
      exact (h.ob k y hy).mono (Gle.refl G) (Xle_upd hX) (fun _ _ => rfl) (fun _ _ => rfl)
  · intro k
    by_cases hk : k = id
    · subst hk; rw [upd_same, upd_same]; simp
    · rw [upd_ne _ _ _ hk, upd_ne _ _ _ hk]; exact h.free k
  · have f : ∀ k y b, upd X id (some (.slice A 0 0)) k = some y → (upd m id (.arr [] e true) k).has w y b → X k = some y ∧ (m k).has w y b := by
      intro k y b hy hb
      by_cases hk : k = id
      · subst hk; rw [upd_same] at hy hb; cases hy; exact (has_capless hb).elim
      · rw [upd_ne _ _ _ hk] at hy hb; exact ⟨hy, hb⟩
    intro k k' y y' b hy hy' hb1 hb2
    obtain ⟨a1, a2⟩ := f k y b hy hb1
    obtain ⟨b1, b2⟩ := f k' y' b hy' hb2
    exact h.apart k k' y y' b a1 b1 a2 b2
  · intro k y b hy hb1
    by_cases hk : k = id
    · subst hk; rw [upd_same] at hy hb1; cases hy; exact (has_capless hb1).elim
    · rw [upd_ne _ _ _ hk] at hy hb1; exact h.mine k y b hy hb1
  · intro k y hy
    by_cases hk : k = id
    · subst hk; rw [upd_same] at hy; cases hy; rfl
    · rw [upd_ne _ _ _ hk] at hy; exact h.cell k y hy
theorem did_append_zeO (hM : Mem P C m w G X) {id : Nat} (hid : m id = .no) (hid2 : m (id + 1000) = .no) {t e : TypeId} {by' sz : Nat} (ht : apOf P t = some (e, by', sz)) {v : V} {fs : List (List T)} (hfs : toT m v = some (.sl fs))
    (hrow : ∀ r ∈ fs, r.length = sz) (hb : fs.length * by' ≤ 140737488355328) (hfz : ∀ k ∈ fz v, k ≠ id ∧ k ≠ id + 1000) {ρ : Operand → Value} {o : Oper} {x y : Operand}
    (ho : o.op = .call { callee := .builtin .append, args := #[x, y], argTypes := #[t, t] }) (hx : V.Is G X .ze (ρ x)) (hv : V.Is G X v (ρ y)) :
    Did P C m G X ((execOp ρ o).run P w) (.ar id) (fzU m (fz v) ++ [(id + 1000, .dead), (id, .arr fs e true)]) := by
  obtain ⟨i, z, hu, hi, hz, hzs, hby, hsz, hb0, hs0⟩ := apOf_spec ht
  obtain ⟨G1, hG1, hM1⟩ := hM.freezeL (fz v)
  have keep : ∀ (ks : List Nat) (m : Nat → Ob) (j : Nat), j ∉ ks → app m (fzU m ks) j = m j := by
    intro ks
    induction ks with
    | nil => intro m j _; rfl
    | cons q ks ih =>
      intro m j hk
      simp at hk
      rcases fzU_cases m q ks with ⟨es', e', _, h⟩ | h <;> rw [h]
      · rw [app, ih _ _ hk.2, upd_ne _ _ _ hk.1]
      · exact ih m j hk.2
  have hn1 : (app m (fzU m (fz v))) id = .no := by rw [keep _ _ _ (fun h => (hfz _ h).1 rfl)]; exact hid
  have hn2 : (app m (fzU m (fz v))) (id + 1000) = .no := by rw [keep _ _ _ (fun h => (hfz _ h).2 rfl)]; exact hid2
  have hT : T.Is G1 (.sl fs) (ρ y) := toT_is hM1 (by rw [toT_fz]; exact hfs) (fun k hk => unmut_fzU _ _ _ (.inr hk)) (V.Is.mono hG1 (Xle.refl X) _ _ hv)
  rw [V.Is] at hx
  obtain ⟨A, hx⟩ := hx
  obtain ⟨hM2, hX2⟩ := hM1.newCapless hn2 hi A
  obtain ⟨B, c, news, hy, hl, hrows, hnews, hone⟩ := slice_cells hM2.gok hT hrow
  have h63 : ([] : List (List T)).length + fs.length ≤ maxLen := by
    have : fs.length ≤ fs.length * by' := Nat.le_mul_of_pos_right _ hb0
    simp only [maxLen, List.length_nil, Nat.zero_add]; omega
  subst hsz; subst hby
  obtain ⟨v', w', G', hrun, hG', hX', hM'⟩ := hM2.append (k := id + 1000) (id := id) (es := []) (upd_same _ _ _) (upd_same _ _ _) (by rw [upd_ne _ _ _ (by omega)]; exact hn1) t o.type i z hu hi hz hzs B c news hl hrows hnews hone (by simpa using hb) h63
  rw [← hy, ← hx] at hrun
  refine ⟨.value v', v', w', G', _, append_exec ho hrun, .inl rfl, hG1.trans hG', hX2.trans hX', ?_, ?_⟩
  · rw [app_append]
    have e1 : upd (upd (upd (app m (fzU m (fz v))) (id + 1000) (.arr [] e true)) (id + 1000) .dead) id (.arr fs e true) = upd (upd (app m (fzU m (fz v))) (id + 1000) .dead) id (.arr fs e true) := by
      funext j; unfold upd; split <;> (try split) <;> rfl
    have e2 : ([] : List (List T)) ++ fs = fs := rfl
    rw [e2] at hM'
    simp only [if_true] at hM'
    rw [e1] at hM'
    exact hM'
  · rw [V.Is]; exact upd_same _ _ _
theorem did_max (hM : Mem P C m w G X) {t t2 : TypeId} {k k2 : IntKind} {a b : Int} {ρ : Operand → Value} {o : Oper} {x y : Operand}
    (ho : o.op = .call { callee := .builtin .max, args := #[x, y], argTypes := #[t, t2] }) (hx : V.Is G X (.t (.sc (.int k a))) (ρ x)) (hy : V.Is G X (.t (.sc (.int k2 b))) (ρ y)) :
    Did P C m G X ((execOp ρ o).run P w) (.t (.sc (.int k (if b > a then b else a)))) [] := by
  rw [V.Is, T.Is] at hx hy
  have : (execOp ρ o).run P w = .ok (.value (.int k (if b > a then b else a))) w := by
    simp [execOp, ho, resolve, invoke, builtin, Builtin.max_, Builtin.max2, hx, hy, S.v]
  rw [this]
  exact did_value hM (by rw [V.Is, T.Is]; rfl)
end
section
variable {P : Program} {C : Cx} {n : Nat} {ops : Array Oper} {K : List (Nat × Oper × Ev) → St → Prop} {r : List (Oper × Nat)} {acc : List (Nat × Oper × Ev)} {ix : Nat} {s : Nat → V} {m : Nat → Ob} {d : Tmp} {ty : TypeId} {pos : String} {after : Array Edge} {g : Option (Nat × Bool)}
theorem s_apZO {α : Type} {l2 : List α} {t e : TypeId} {by' sz : Nat} {x y : Operand} {v : V} {u : List (Nat × Ob)} {m1 : Nat → Ob} {fp : List Nat} (row : α → List T) (hrow : ∀ y, (row y).length = sz) (hb : decide (l2.length * by' ≤ 140737488355328) = true) (ha : apOf P t = some (e, by', sz)) (hr : Run P n ops K r ((ix, ⟨some d, .call { callee := .builtin .append, args := #[x, y], argTypes := #[t, t] }, ty, pos, after, g⟩, ⟨.ar d, u ++ [(d + 1000, .dead), (d, .arr (l2.map row) e true)], fp⟩) :: acc) ⟨upd s d (.ar d), upd (upd m1 (d + 1000) .dead) d (.arr (l2.map row) e true)⟩) (hg : guardOf n ops ⟨some d, .call { callee := .builtin .append, args := #[x, y], argTypes := #[t, t] }, ty, pos, after, g⟩ ⟨s, m⟩ = some true := by rfl) (hx : ev n s x = .ze := by conv => lhs; whnf) (hy : ev n s y = v := by conv => lhs; whnf) (hv : toT m v = some (.sl (l2.map row)) := by first | (conv => lhs; whnf) | rfl) (h1 : isNo (m d) = true := by rfl) (h2 : isNo (m (d + 1000)) = true := by rfl) (h3 : d ∉ fz v := by simp [fz]) (h4 : d + 1000 ∉ fz v := by simp [fz]) (hu : fzU m (fz v) = u := by repeat (first | exact fzU_nil | (apply fzU_cons; focus ((conv => lhs; whnf); done)) | (apply fzU_skip; focus ((conv => lhs; whnf); done)))) (hm1 : app m u = m1 := by simp only [app]; rfl) (hfp : fpOf (idOf ⟨some d, .call { callee := .builtin .append, args := #[x, y], argTypes := #[t, t] }, ty, pos, after, g⟩) (ev n s) (.call { callee := .builtin .append, args := #[x, y], argTypes := #[t, t] }) = fp := by rfl) : Run P n ops K ((⟨some d, .call { callee := .builtin .append, args := #[x, y], argTypes := #[t, t] }, ty, pos, after, g⟩, ix) :: r) acc ⟨s, m⟩ := by
  subst hu; subst hm1
  have hin : ∀ {m' : Nat → Ob}, (∀ k ∈ fp, m' k = m k) → (∀ k ∈ v.ids, m' k = m k) ∧ m' d = m d ∧ m' (d + 1000) = m (d + 1000) := by
    intro m' h
    rw [← hfp] at h
    refine ⟨fun k hk => h k (fp_mem (x := y) rfl (by simp [Op.operands, Call.operands]) (by rw [hy]; exact hk)), h d (by simp [fpOf, idOf]), h (d + 1000) (by simp [fpOf, idOf])⟩
  refine run_gen (e := ⟨.ar d, fzU m (fz v) ++ [(d + 1000, .dead), (d, .arr (l2.map row) e true)], fp⟩) hg (fun s' m' q1 q2 C G X w ρ hM hE => ?_) (by
    have : app m (fzU m (fz v) ++ [(d + 1000, Ob.dead), (d, .arr (l2.map row) e true)]) = upd (upd (app m (fzU m (fz v))) (d + 1000) .dead) d (.arr (l2.map row) e true) := by rw [app_append]; rfl
    show Run P n ops K r _ ⟨upd s d (.ar d), app m (fzU m (fz v) ++ [(d + 1000, Ob.dead), (d, .arr (l2.map row) e true)])⟩
    rw [this]; exact hr)
  obtain ⟨hv1, hd1, hd2⟩ := hin q2
  have hx' := hE x
  have hy' := hE y
  rw [q1 x (by simp [Op.operands, Call.operands]), hx] at hx'
  rw [q1 y (by simp [Op.operands, Call.operands]), hy] at hy'
  have hz : fzU m' (fz v) = fzU m (fz v) := fzU_congr (fun k hk => hv1 k (fz_ids hk))
  have := did_append_zeO (id := d) hM (by rw [hd1]; exact isNo_eq h1) (by rw [hd2]; exact isNo_eq h2) ha (by rw [toT_congr hv1]; exact hv) (by
    intro r hr; obtain ⟨y, _, rfl⟩ := List.mem_map.1 hr; exact hrow y) (by simpa using hb) (fun k hk => ⟨fun e => h3 (e ▸ hk), fun e => h4 (e ▸ hk)⟩) (o := ⟨some d, .call { callee := .builtin .append, args := #[x, y], argTypes := #[t, t] }, ty, pos, after, g⟩) rfl hx' hy'
  rw [hz] at this
  exact this
theorem s_max {t t2 : TypeId} {x y : Operand} {k k2 : IntKind} {a b : Int} (hr : Run P n ops K r ((ix, ⟨some d, .call { callee := .builtin .max, args := #[x, y], argTypes := #[t, t2] }, ty, pos, after, g⟩, ⟨.t (.sc (.int k (if b > a then b else a))), [], []⟩) :: acc) ⟨upd s d (.t (.sc (.int k (if b > a then b else a)))), m⟩) (hg : guardOf n ops ⟨some d, .call { callee := .builtin .max, args := #[x, y], argTypes := #[t, t2] }, ty, pos, after, g⟩ ⟨s, m⟩ = some true := by rfl) (hx : ev n s x = .t (.sc (.int k a)) := by conv => lhs; whnf) (hy : ev n s y = .t (.sc (.int k2 b)) := by conv => lhs; whnf) : Run P n ops K ((⟨some d, .call { callee := .builtin .max, args := #[x, y], argTypes := #[t, t2] }, ty, pos, after, g⟩, ix) :: r) acc ⟨s, m⟩ := by
  refine run_gen (e := ⟨.t (.sc (.int k (if b > a then b else a))), [], []⟩) hg (fun s' m' q1 q2 C G X w ρ hM hE => ?_) hr
  have hx' := hE x
  have hy' := hE y
  rw [q1 x (by simp [Op.operands, Call.operands]), hx] at hx'
  rw [q1 y (by simp [Op.operands, Call.operands]), hy] at hy'
  exact did_max hM rfl hx' hy'
end
end Go.Abs
end
