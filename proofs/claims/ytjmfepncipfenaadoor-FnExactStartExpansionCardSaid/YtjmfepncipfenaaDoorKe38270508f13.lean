/- A part of the proof: what the functions that the law calls answer, as pure values. -/
import Derived.Maps.RangeRun
import Derived.Test.YtjmfepncipfenaaDoorK89d2c49988cd
set_option linter.unusedSimpArgs false
set_option linter.unusedVariables false
section
set_option linter.unusedSimpArgs false
set_option linter.unusedVariables false
namespace Go.Abs
open Go.MapKept
theorem EntriesOk.stamped {es : Array MapEntry} {c : Nat} {f : Int → Option Int} (h : EntriesOk es.toList c f) : Stamped es c := ⟨fun x hx => (h.1 x hx).1, h.2.2.1, h.2.1⟩
theorem EntriesOk.of {es : Array MapEntry} {c : Nat} {f : Int → Option Int} (hs : Stamped es c) (h : ∀ x ∈ es.toList, ∃ k v, x.key = .int .i64 k ∧ x.val = .int .i64 v ∧ f k = some v) (h2 : ∀ k v, f k = some v → ∃ e ∈ es.toList, e.key = .int .i64 k ∧ e.val = .int .i64 v) : EntriesOk es.toList c f :=
  ⟨fun x hx => ⟨hs.1 x hx, h x hx⟩, hs.2.2, hs.2.1, h2⟩
theorem EntriesOk.isKey {es : List MapEntry} {c : Nat} {f : Int → Option Int} (h : EntriesOk es c f) : ∀ x ∈ es, IsKey (.int .i64) x.key := fun x hx => by
  obtain ⟨_, k, v, hk, _⟩ := h.1 x hx
  rw [hk]; exact rfl
theorem EntriesOk.none {es : List MapEntry} {c : Nat} {f : Int → Option Int} (h : EntriesOk es c f) {k : Int} (hk : ∀ x ∈ es, x.key ≠ .int .i64 k) : f k = none := by
  cases hf : f k with
  | none => rfl
  | some v =>
    obtain ⟨e, he, h1, _⟩ := h.2.2.2 k v hf
    exact absurd h1 (hk e he)
theorem EntriesOk.at {es : List MapEntry} {c : Nat} {f : Int → Option Int} (h : EntriesOk es c f) {x : MapEntry} (hx : x ∈ es) {k : Int} (hk : x.key = .int .i64 k) : ∃ v, x.val = .int .i64 v ∧ f k = some v := by
  obtain ⟨_, k', v, h1, h2, h3⟩ := h.1 x hx
  rw [hk] at h1; cases h1
  exact ⟨v, h2, h3⟩
theorem entriesOk_nil : EntriesOk [] 0 map0 := by
  refine ⟨?_, ?_, ?_, ?_⟩
  · intro x hx; cases hx
  · exact List.nodup_nil
  · exact List.nodup_nil
  · intro k v h; cases h
theorem key_inj {l : List MapEntry} (h : (l.map (·.key)).Nodup) {x y : MapEntry} (hx : x ∈ l) (hy : y ∈ l) (he : x.key = y.key) : x = y := by
  induction l with
  | nil => cases hx
  | cons a l ih =>
    rw [List.map_cons, List.nodup_cons] at h
    rcases List.mem_cons.1 hx with rfl | hx1 <;> rcases List.mem_cons.1 hy with rfl | hy1
    · rfl
    · exact absurd (List.mem_map.2 ⟨y, hy1, he.symm⟩ : _ ∈ l.map (fun x => x.key)) h.1
    · exact absurd (List.mem_map.2 ⟨x, hx1, he⟩ : _ ∈ l.map (fun x => x.key)) h.1
    · exact ih h.2 hx1 hy1
theorem EntriesOk.push {es : Array MapEntry} {c : Nat} {f : Int → Option Int} (h : EntriesOk es.toList c f) {k v : Int} (hk : ∀ x ∈ es.toList, x.key ≠ .int .i64 k) : EntriesOk (es.push { key := .int .i64 k, val := .int .i64 v, born := c }).toList (c + 1) (mapSet f k v) := by
  refine EntriesOk.of (stamped_push h.stamped hk) (fun x hx => ?_) (fun k' v' hf => ?_)
  · rw [Array.toList_push, List.mem_append] at hx
    rcases hx with hx | hx
    · obtain ⟨_, k1, v1, h1, h2, h3⟩ := h.1 x hx
      refine ⟨k1, v1, h1, h2, ?_⟩
      unfold mapSet
      rw [if_neg (by rintro rfl; exact hk x hx h1)]; exact h3
    · rw [List.mem_singleton] at hx; subst hx
      exact ⟨k, v, rfl, rfl, by unfold mapSet; rw [if_pos rfl]⟩
  · unfold mapSet at hf
    split at hf
    · rename_i he
      subst he; cases hf
      exact ⟨_, by rw [Array.toList_push, List.mem_append]; exact .inr (List.mem_singleton.2 rfl), rfl, rfl⟩
    · obtain ⟨e, he, h1⟩ := h.2.2.2 k' v' hf
      exact ⟨e, by rw [Array.toList_push, List.mem_append]; exact .inl he, h1⟩
theorem EntriesOk.modify {es : Array MapEntry} {c : Nat} {f : Int → Option Int} (h : EntriesOk es.toList c f) {j : Nat} {e : MapEntry} (hj : es[j]? = some e) {k v : Int} (hk : e.key = .int .i64 k) : EntriesOk (es.modify j fun e => { e with key := .int .i64 k, val := .int .i64 v }).toList c (mapSet f k v) := by
  have hmem : e ∈ es.toList := by rw [← Array.getElem?_toList] at hj; exact List.mem_of_getElem? hj
  have hget : ∀ i, (es.modify j fun e => { e with key := .int .i64 k, val := .int .i64 v }).toList[i]? = if j = i then (es.toList[i]?).map (fun e => { e with key := .int .i64 k, val := .int .i64 v }) else es.toList[i]? := fun i => by
    rw [Array.getElem?_toList, Array.getElem?_modify, Array.getElem?_toList]
  refine EntriesOk.of (stamped_modify h.stamped j _ (fun _ _ => rfl) (fun x _ hx => by rw [hj] at hx; cases hx; exact hk.symm)) (fun x hx => ?_) (fun k' v' hf => ?_)
  · obtain ⟨i, hi⟩ := List.mem_iff_getElem?.1 hx
    rw [hget] at hi
    split at hi
    · cases hg : es.toList[i]? with
      | none => rw [hg] at hi; cases hi
      | some y => rw [hg] at hi; cases hi; exact ⟨k, v, rfl, rfl, by unfold mapSet; rw [if_pos rfl]⟩
    · rename_i hne
      have hy := List.mem_of_getElem? hi
      obtain ⟨_, k1, v1, h1, h2, h3⟩ := h.1 x hy
      refine ⟨k1, v1, h1, h2, ?_⟩
      unfold mapSet
      rw [if_neg]; exact h3
      rintro rfl
      have := key_inj h.2.1 hy hmem (by rw [h1, hk])
      subst this
      have hn := h.2.1
      rw [← Array.getElem?_toList] at hj
      have h5 : (es.toList.map (·.key))[i]? = some x.key := by rw [List.getElem?_map, hi]; rfl
      have h6 : (es.toList.map (·.key))[j]? = some x.key := by rw [List.getElem?_map, hj]; rfl
      exact hne ((List.getElem?_inj (List.getElem?_eq_some_iff.1 h6).1 hn).1 (h6.trans h5.symm))
  · unfold mapSet at hf
    split at hf
    · rename_i he
      subst he; cases hf
      refine ⟨{ e with key := .int .i64 k', val := .int .i64 v }, List.mem_of_getElem? (i := j) ?_, rfl, rfl⟩
      rw [hget, if_pos rfl, Array.getElem?_toList, hj]; rfl
    · rename_i hne
      obtain ⟨y, hy, h1, h2⟩ := h.2.2.2 k' v' hf
      obtain ⟨i, hi⟩ := List.mem_iff_getElem?.1 hy
      refine ⟨y, List.mem_of_getElem? (i := i) ?_, h1, h2⟩
      rw [hget, if_neg]; exact hi
      rintro rfl
      rw [Array.getElem?_toList, hj] at hi; cases hi
      rw [hk] at h1; cases h1; exact hne rfl
def mapII (P : Program) (t : TypeId) : Bool := match P.underlying t with
  | some (.map k e) => (match P.underlying k with | some (.int .i64) => true | _ => false) && (match (P.info? e).bind (·.zero) with | some (.int .i64 0) => true | _ => false)
  | _ => false
theorem mapII_spec {P : Program} {t : TypeId} (h : mapII P t = true) : ∃ k e, P.underlying t = some (.map k e) ∧ P.underlying k = some (.int .i64) ∧ ∀ w, (zeroValue e).run P w = .ok (.int .i64 0) w := by
  unfold mapII at h
  split at h
  · rename_i k e hu
    rw [Bool.and_eq_true] at h
    obtain ⟨h1, h2⟩ := h
    refine ⟨k, e, hu, ?_, fun w => ?_⟩
    · split at h1
      · rename_i hk; exact hk
      · cases h1
    · split at h2
      · rename_i hz
        cases hi : P.info? e with
        | none => rw [hi] at hz; cases hz
        | some i =>
          rw [hi, Option.bind_some] at hz
          simp [zeroValue, typeInfo, hi, hz, Result.andThen]
      · cases h2
  · cases h
section
variable {P : Program} {C : Cx} {n : Nat} {s : Nat → V} {m : Nat → Ob} {w : World} {G : Im} {X : Xm}
theorem Mem.newO (h : Mem P C m w G X) {id : Nat} (hid : m id = .no) (z : Obj) (o : Ob) (x : Value) (hno : o ≠ .no)
    (hok : Ob.Ok P G (upd X id (some x)) (w.alloc z) o x) (hb : ∀ b, o.has (w.alloc z) x b → b = w.heap.size) (hone : x.oneCell' = true) :
    Mem P C (upd m id o) (w.alloc z) G (upd X id (some x)) ∧ Xle X (upd X id (some x)) := by
  have hX : X id = none := (h.free id).2 hid
  have hh : ∀ k y b, X k = some y → (m k).has (w.alloc z) y b → (m k).has w y b := fun k y b hy hb => (Ob.has_congr (fun b hb' => alloc_old (h.blk_lt hy hb')) (h.ob k y hy) b).1 hb
  refine ⟨⟨h.gle, h.gold, h.gok.alloc _, h.keeps.alloc _, ?_, ?_, ?_, ?_, ?_, fun k y hk => Xle_upd hX k y (h.old k y hk)⟩, Xle_upd hX⟩
  · intro k y hy
    by_cases hk : k = id
    · subst hk; rw [upd_same] at hy ⊢; cases hy; exact hok
    · rw [upd_ne _ _ _ hk] at hy ⊢
      exact (h.ob k y hy).mono (Gle.refl G) (Xle_upd hX) (fun _ _ => rfl) (fun b hb' => alloc_old (h.blk_lt hy hb'))
  · intro k
    by_cases hk : k = id
    · subst hk; rw [upd_same, upd_same]; simp [hno]
    · rw [upd_ne _ _ _ hk, upd_ne _ _ _ hk]; exact h.free k
  · intro k k' y y' b hy hy' hb1 hb2
    by_cases hk : k = id <;> by_cases hk' : k' = id
    · rw [hk, hk']
    · subst hk; rw [upd_same] at hy hb1; rw [upd_ne _ _ _ hk'] at hy' hb2; cases hy
      have := hb b hb1; have := h.blk_lt hy' (hh _ _ _ hy' hb2); omega
    · subst hk'; rw [upd_same] at hy' hb2; rw [upd_ne _ _ _ hk] at hy hb1; cases hy'
      have := hb b hb2; have := h.blk_lt hy (hh _ _ _ hy hb1); omega
    · rw [upd_ne _ _ _ hk] at hy hb1; rw [upd_ne _ _ _ hk'] at hy' hb2
      exact h.apart k k' y y' b hy hy' (hh _ _ _ hy hb1) (hh _ _ _ hy' hb2)
  · intro k y b hy hb1
    by_cases hk : k = id
    · subst hk; rw [upd_same] at hy hb1; cases hy
      exact .inr (by have := hb b hb1; have := h.keeps.size; omega)
    · rw [upd_ne _ _ _ hk] at hy hb1; exact h.mine k y b hy (hh _ _ _ hy hb1)
  · intro k y hy
    by_cases hk : k = id
    · subst hk; rw [upd_same] at hy; cases hy; exact hone
    · rw [upd_ne _ _ _ hk] at hy; exact h.cell k y hy
theorem notG (hM : Mem P C m w G X) {b : Nat} {o : Obj} (h : w.heap[b]? = some o) (hc : ∀ c e fr, o ≠ .cells c e fr) : G b = none := by
  cases hg : G b with
  | none => rfl
  | some cs =>
    obtain ⟨cur, e, fr, hw, _⟩ := hM.gok b cs hg
    rw [h] at hw; cases hw; exact absurd rfl (hc cur e fr)
theorem did_makeMap (hM : Mem P C m w G X) {id : Nat} (hid : m id = .no) {t : TypeId} {ρ : Operand → Value} {o : Oper} (ho : o.op = .makeMap t none) :
    Did P C m G X ((execOp ρ o).run P w) (.ar id) [(id, .mp map0)] := by
  have hr : (execOp ρ o).run P w = .ok (.value (.map (some w.heap.size))) (w.alloc (.map #[] 0)) := by
    simp [execOp, ho, Instr.makeMap, newObj, Sem.run]
  rw [hr]
  obtain ⟨h1, h2⟩ := hM.newO hid (.map #[] 0) (.mp map0) (.map (some w.heap.size)) (by simp) ⟨w.heap.size, #[], 0, rfl, heap_alloc_new w _, entriesOk_nil⟩ (fun b hb => by rw [Ob.has_mp] at hb; cases hb; rfl) rfl
  exact ⟨_, _, _, G, _, rfl, .inl rfl, Gle.refl G, h2, h1, by rw [V.Is]; exact upd_same _ _ _⟩
theorem did_lookup (hM : Mem P C m w G X) {t : TypeId} (ht : mapII P t = true) {q : Nat} {f : Int → Option Int} (hm : m q = .mp f) {i : Int} {ρ : Operand → Value} {o : Oper} {x y : Operand} (ho : o.op = .lookup t x y false)
    (hx : V.Is G X (.ar q) (ρ x)) (hy : V.Is G X (.t (.sc (.int .i64 i))) (ρ y)) : Did P C m G X ((execOp ρ o).run P w) (.t (.sc (.int .i64 (mapGet f i)))) [] := by
  obtain ⟨k, e, hu, hk, hz⟩ := mapII_spec ht
  rw [V.Is] at hx
  have hob := hM.ob q _ hx
  rw [hm] at hob
  obtain ⟨r, es, clock, hxr, hb, hE⟩ := hob
  rw [V.Is, T.Is] at hy
  have hr : (execOp ρ o).run P w = .ok (.value (.int .i64 (mapGet f i))) w := by
    rcases findNow_spec (d := .int .i64) (k := .int .i64 i) rfl es.toList 0 hE.isKey with ⟨h1, h2⟩ | ⟨j, e', h1, h2, h3⟩
    · have : mapGet f i = 0 := by unfold mapGet; rw [hE.none h2]; rfl
      rw [this]
      simp [execOp, ho, hxr, hy, S.v, Instr.lookup, run_underlying hu, MapKept.run_getObj_map hb, MapKept.run_checkKey (d := .int .i64) (k := .int .i64 i) hk rfl, MapKept.run_findKey hk h1, hz, Result.andThen]
    · obtain ⟨v, hv, hf⟩ := hE.at (List.mem_of_getElem? h2) h3
      have : mapGet f i = v := by unfold mapGet; rw [hf]; rfl
      rw [this]
      simp [execOp, ho, hxr, hy, S.v, Instr.lookup, run_underlying hu, MapKept.run_getObj_map hb, MapKept.run_checkKey (d := .int .i64) (k := .int .i64 i) hk rfl, MapKept.run_findKey hk h1, hv, Result.andThen]
  rw [hr]
  exact did_value hM (by rw [V.Is, T.Is]; rfl)
theorem did_lookupN (hM : Mem P C m w G X) {t : TypeId} (ht : mapII P t = true) {i : Int} {ρ : Operand → Value} {o : Oper} {x y : Operand} (ho : o.op = .lookup t x y false)
    (hx : V.Is G X (.t (.sc .nim)) (ρ x)) (hy : V.Is G X (.t (.sc (.int .i64 i))) (ρ y)) : Did P C m G X ((execOp ρ o).run P w) (.t (.sc (.int .i64 0))) [] := by
  obtain ⟨k, e, hu, hk, hz⟩ := mapII_spec ht
  rw [V.Is, T.Is] at hx hy
  have h1 : Instr.findNow (.int .i64) (.int .i64 i) ([] : List MapEntry) 0 = some none := rfl
  have hr : (execOp ρ o).run P w = .ok (.value (.int .i64 0)) w := by
    simp [execOp, ho, hx, hy, S.v, Instr.lookup, run_underlying hu, MapKept.run_checkKey (d := .int .i64) (k := .int .i64 i) hk rfl, MapKept.run_findKey hk h1, hz, Result.andThen]
  rw [hr]
  exact did_value hM (by rw [V.Is, T.Is]; rfl)
theorem did_mapUpdate (hM : Mem P C m w G X) {t : TypeId} (ht : mapII P t = true) {q : Nat} {f : Int → Option Int} (hm : m q = .mp f) {i v : Int} {ρ : Operand → Value} {o : Oper} {x y z : Operand} (ho : o.op = .mapUpdate t x y z)
    (hx : V.Is G X (.ar q) (ρ x)) (hy : V.Is G X (.t (.sc (.int .i64 i))) (ρ y)) (hv : V.Is G X (.t (.sc (.int .i64 v))) (ρ z)) : Did P C m G X ((execOp ρ o).run P w) .jk [(q, .mp (mapSet f i v))] := by
  obtain ⟨k, e, hu, hk, hz⟩ := mapII_spec ht
  rw [V.Is] at hx
  have hob := hM.ob q _ hx
  rw [hm] at hob
  obtain ⟨r, es, clock, hxr, hb, hE⟩ := hob
  rw [V.Is, T.Is] at hy hv
  have hGr : ∀ b, (m q).has w (ρ x) b → G b = none := fun b hb' => by
    rw [hm, Ob.has_mp, hxr] at hb'; cases hb'
    exact notG hM hb (fun _ _ _ h => by cases h)
  have key : ∃ es' c', (execOp ρ o).run P w = .ok .skip { w with heap := w.heap.setIfInBounds r (.map es' c') } ∧ EntriesOk es'.toList c' (mapSet f i v) := by
    rcases findNow_spec (d := .int .i64) (k := .int .i64 i) rfl es.toList 0 hE.isKey with ⟨h1, h2⟩ | ⟨j, e', h1, h2, h3⟩
    · refine ⟨_, _, ?_, hE.push h2⟩
      simp [execOp, ho, hxr, hy, hv, S.v, Instr.mapUpdate, run_underlying hu, MapKept.run_getObj_map hb, MapKept.run_checkKey (d := .int .i64) (k := .int .i64 i) hk rfl, MapKept.run_findKey hk h1, MapKept.run_setObj_map _ hb, Result.andThen]
    · have hj : es[j]? = some e' := by simpa using h2
      refine ⟨_, _, ?_, hE.modify hj h3⟩
      simp [execOp, ho, hxr, hy, hv, S.v, Instr.mapUpdate, run_underlying hu, MapKept.run_getObj_map hb, MapKept.run_checkKey (d := .int .i64) (k := .int .i64 i) hk rfl, MapKept.run_findKey hk h1, hj, h3, MapKept.run_keyThatStays (d := .int .i64) (k := .int .i64 i) rfl, MapKept.run_setObj_map _ hb, Result.andThen]
  obtain ⟨es', c', hr, hE'⟩ := key
  refine ⟨.skip, undef, _, G, X, hr, .inr ⟨rfl, rfl⟩, Gle.refl G, Xle.refl X, ?_, trivial⟩
  have hset := heap_set (o' := .map es' c') hb
  refine hM.rewriteW hx (.mp (mapSet f i v)) rfl rfl rfl (by simp) (fun b hb1 hnb => hset.2 b (by rintro rfl; exact hnb (by rw [hm, Ob.has_mp]; exact hxr))) hGr (by simp) (fun b hb1 => by rw [Ob.has_mp] at hb1; rw [hm, Ob.has_mp]; exact hb1) ⟨r, es', c', hxr, hset.1, hE'⟩
theorem did_range (hM : Mem P C m w G X) {id : Nat} (hid : m id = .no) {t : TypeId} (ht : mapII P t = true) {q bm clock : Nat} {es : Array MapEntry} (hm : m q = .mpx bm es clock) {ρ : Operand → Value} {o : Oper} {x : Operand} (ho : o.op = .range t x)
    (hx : V.Is G X (.ar q) (ρ x)) : Did P C m G X ((execOp ρ o).run P w) (.ar id) [(id, .it (some bm) clock #[] clock)] := by
  obtain ⟨k, e, hu, hk, hz⟩ := mapII_spec ht
  rw [V.Is] at hx
  have hob := hM.ob q _ hx
  rw [hm] at hob
  obtain ⟨hxr, hb⟩ := hob
  have hr : (execOp ρ o).run P w = .ok (.value (.pointer (some ⟨w.heap.size, 0, none⟩))) (w.alloc (.mapIter (some bm) clock #[] clock)) := by
    simp [execOp, ho, hxr, run_range_map w t k e bm es clock hu hb]
  rw [hr]
  obtain ⟨h1, h2⟩ := hM.newO hid (.mapIter (some bm) clock #[] clock) (.it (some bm) clock #[] clock) (.pointer (some ⟨w.heap.size, 0, none⟩)) (by simp) ⟨w.heap.size, rfl, heap_alloc_new w _⟩ (fun b hb => by obtain ⟨a, ha, rfl⟩ := Ob.has_it.1 hb; cases ha; rfl) rfl
  exact ⟨_, _, _, G, _, rfl, .inl rfl, Gle.refl G, h2, h1, by rw [V.Is]; exact upd_same _ _ _⟩
theorem did_rangeN (hM : Mem P C m w G X) {id : Nat} (hid : m id = .no) {t : TypeId} (ht : mapII P t = true) {ρ : Operand → Value} {o : Oper} {x : Operand} (ho : o.op = .range t x)
    (hx : V.Is G X (.t (.sc .nim)) (ρ x)) : Did P C m G X ((execOp ρ o).run P w) (.ar id) [(id, .it none 0 #[] 0)] := by
  obtain ⟨k, e, hu, hk, hz⟩ := mapII_spec ht
  rw [V.Is, T.Is] at hx
  have hr : (execOp ρ o).run P w = .ok (.value (.pointer (some ⟨w.heap.size, 0, none⟩))) (w.alloc (.mapIter none 0 #[] 0)) := by
    simp [execOp, ho, hx, S.v, run_range_nilMap w t k e hu]
  rw [hr]
  obtain ⟨h1, h2⟩ := hM.newO hid (.mapIter none 0 #[] 0) (.it none 0 #[] 0) (.pointer (some ⟨w.heap.size, 0, none⟩)) (by simp) ⟨w.heap.size, rfl, heap_alloc_new w _⟩ (fun b hb => by obtain ⟨a, ha, rfl⟩ := Ob.has_it.1 hb; cases ha; rfl) rfl
  exact ⟨_, _, _, G, _, rfl, .inl rfl, Gle.refl G, h2, h1, by rw [V.Is]; exact upd_same _ _ _⟩
theorem did_entry (hM : Mem P C m w G X) {q d bm si clock : Nat} {seen : Array Nat} {es : Array MapEntry} {x0 : MapEntry} (hm : m q = .mpx bm es clock) (hd : m d = .it (some bm) si (seen.push x0.born) clock) (he : x0 ∈ es.toList) (hn : (es.toList.map (·.born)).Nodup) {k v : Int} (hk : x0.key = .int .i64 k) (hv : x0.val = .int .i64 v)
    (hq : ∃ y, X q = some y) {ρ : Operand → Value} {o : Oper} {x : Operand} (ho : o.op = .entry x) (hx : V.Is G X (.ar d) (ρ x)) : Did P C m G X ((execOp ρ o).run P w) (.tp [.t (.sc (.int .i64 k)), .t (.sc (.int .i64 v))]) [] := by
  rw [V.Is] at hx
  have hob := hM.ob d _ hx
  rw [hd] at hob
  obtain ⟨r, hxr, hr⟩ := hob
  obtain ⟨y, hy⟩ := hq
  have hob := hM.ob q _ hy
  rw [hm] at hob
  obtain ⟨_, hb⟩ := hob
  have hrun : (execOp ρ o).run P w = .ok (.value (.tuple #[.int .i64 k, .int .i64 v])) w := by
    have := run_entry_at (P := P) w r bm si seen es clock x0 hr hb he hn
    simp [execOp, ho, hxr, this, hk, hv]
  rw [hrun]
  refine did_value hM ?_
  rw [V.Is]
  refine ⟨_, rfl, ?_⟩
  rw [V.IsL]; refine ⟨_, _, rfl, by rw [V.Is, T.Is]; rfl, ?_⟩
  rw [V.IsL]; refine ⟨_, _, rfl, by rw [V.Is, T.Is]; rfl, ?_⟩
  rw [V.IsL]
def leftL (es : Array MapEntry) (seen : Array Nat) : List MapEntry := es.toList.filter fun e => !seen.contains e.born
theorem leftOf_list (es : Array MapEntry) (seen : Array Nat) : (leftOf es seen).toList = leftL es seen := by
  unfold leftOf leftL; simp
theorem next_run (hM : Mem P C m w G X) {q d bm clock : Nat} {seen : Array Nat} {es : Array MapEntry} {f : Int → Option Int} (hm : m q = .mpx bm es clock) (hd : m d = .it (some bm) clock seen clock) (hE : EntriesOk es.toList clock f) (hq : ∃ y, X q = some y) {ρ : Operand → Value} {o : Oper} {x : Operand} (ho : o.op = .next x false) (hx : V.Is G X (.ar d) (ρ x)) :
    (leftL es seen = [] ∧ (execOp ρ o).run P w = .ok (.value (.tuple #[.bool false])) w) ∨
    ∃ x0 ∈ leftL es seen, ∃ w', (execOp ρ o).run P w = .ok (.value (.tuple #[.bool true, x0.key, x0.val])) w' ∧ Mem P C (upd m d (.it (some bm) clock (seen.push x0.born) clock)) w' G X := by
  rw [V.Is] at hx
  have hob := hM.ob d _ hx
  rw [hd] at hob
  obtain ⟨r, hxr, hr⟩ := hob
  obtain ⟨y, hy⟩ := hq
  have hob := hM.ob q _ hy
  rw [hm] at hob
  obtain ⟨_, hb⟩ := hob
  rcases run_next_at (P := P) w o.type r bm clock clock seen es clock hr hb (fun x hx => (hE.1 x hx).1) (Nat.le_refl _) with ⟨h0, hrun⟩ | ⟨x0, hx0, w1, hw1, hrun⟩
  · left
    refine ⟨?_, by simp [execOp, ho, hxr, hrun]⟩
    rw [← leftOf_list]
    have : leftOf es seen = #[] := Array.eq_empty_of_size_eq_zero h0
    rw [this]
  · right
    rw [leftOf_list] at hx0
    refine ⟨x0, hx0, ChangeMaps.setBlock w1 r (.mapIter (some bm) clock (seen.push x0.born) clock), by simp [execOp, ho, hxr, hrun], ?_⟩
    have hM1 : Mem P C m w1 G X := by
      rcases hw1 with rfl | rfl
      · exact hM
      · exact hM.drew _
    have hr1 : w1.heap[r]? = some (.mapIter (some bm) clock seen clock) := by rcases hw1 with rfl | rfl <;> exact hr
    have hset := heap_set (o' := .mapIter (some bm) clock (seen.push x0.born) clock) hr1
    refine hM1.rewriteW hx _ rfl rfl rfl (by simp [ChangeMaps.setBlock]) (fun b hb1 hnb => hset.2 b (by rintro rfl; exact hnb (by rw [hd]; exact Ob.has_it.2 ⟨_, hxr, rfl⟩))) (fun b hb1 => ?_) (by simp) (fun b hb1 => ?_) ⟨r, hxr, hset.1⟩
    · rw [hd] at hb1
      obtain ⟨a, ha, rfl⟩ := Ob.has_it.1 hb1
      rw [hxr] at ha; cases ha
      exact notG hM1 hr1 (fun _ _ _ h => by cases h)
    · obtain ⟨a, ha, rfl⟩ := Ob.has_it.1 hb1
      rw [hd]; exact Ob.has_it.2 ⟨a, ha, rfl⟩
theorem next_runN (hM : Mem P C m w G X) {d : Nat} (hd : m d = .it none 0 #[] 0) {ρ : Operand → Value} {o : Oper} {x : Operand} (ho : o.op = .next x false) (hx : V.Is G X (.ar d) (ρ x)) : (execOp ρ o).run P w = .ok (.value (.tuple #[.bool false])) w := by
  rw [V.Is] at hx
  have hob := hM.ob d _ hx
  rw [hd] at hob
  obtain ⟨r, hxr, hr⟩ := hob
  simp only [execOp, ho, hxr, Instr.next, getObj, Sem.run_bind, Sem.run, hr, Result.andThen]
  rfl
theorem awp_mpx {c : Code} {Q : Exit → St → Prop} (q : Nat) {f : Int → Option Int} (hm : m q = .mp f) (h : ∀ bm es clock, EntriesOk es.toList clock f → AWP P C n c Q ⟨s, upd m q (.mpx bm es clock)⟩) : AWP P C n c Q ⟨s, m⟩ := by
  rintro x w ⟨G, X, hM, hd, hsz, ht⟩
  replace hM : Mem P C m w G X := hM
  cases hX : X q with
  | none => rw [(hM.free q).1 hX] at hm; cases hm
  | some y =>
    have hob := hM.ob q y hX
    rw [hm] at hob
    obtain ⟨r, es, clock, rfl, hb, hE⟩ := hob
    refine h r es clock hE x w ⟨G, X, Mem.less2 hM q _ (fun z hz hok => ?_) ⟨fun h => by simp at h, fun h => by rw [hm] at h; cases h⟩, hd, hsz, ht⟩
    rw [hX] at hz; cases hz
    exact ⟨⟨rfl, hb⟩, fun b hb => by rw [Ob.has_mpx] at hb; rw [hm, Ob.has_mp]; exact hb⟩
theorem awp_mpo {c : Code} {Q : Exit → St → Prop} (q : Nat) {f : Int → Option Int} {bm clock : Nat} {es : Array MapEntry} (hE : EntriesOk es.toList clock f) (hm : m q = .mpx bm es clock) (h : AWP P C n c Q ⟨s, upd m q (.mp f)⟩) : AWP P C n c Q ⟨s, m⟩ := by
  refine awp_weak ?_ h
  rintro x w ⟨G, X, hM, hd, hsz, ht⟩
  replace hM : Mem P C m w G X := hM
  refine ⟨G, X, Mem.less2 hM q _ (fun z hz hok => ?_) ⟨fun h => by simp at h, fun h => by rw [hm] at h; cases h⟩, hd, hsz, ht⟩
  rw [hm] at hok ⊢
  obtain ⟨rfl, hb⟩ := hok
  exact ⟨⟨bm, es, clock, rfl, hb, hE⟩, fun b hb => by rw [Ob.has_mp] at hb; rw [Ob.has_mpx]; exact hb⟩
end
end Go.Abs
end
section
set_option linter.unusedSimpArgs false
set_option linter.unusedVariables false
namespace Go.Abs
def WalkI (es : Array MapEntry) (seen : Array Nat) (f g : Int → Option Int) : Prop := ∀ x v, g x = some v ↔ (f x = some v ∧ ∃ e ∈ es.toList, e.key = .int .i64 x ∧ e.born ∈ seen.toList)
theorem walk_start {es : Array MapEntry} {f : Int → Option Int} : WalkI es #[] f map0 := fun x v => ⟨fun h => (by cases h), fun h => (by obtain ⟨_, e, _, _, h⟩ := h; simp at h)⟩
theorem left_mem {es : Array MapEntry} {seen : Array Nat} {e : MapEntry} : e ∈ leftL es seen ↔ e ∈ es.toList ∧ e.born ∉ seen.toList := by
  unfold leftL; rw [List.mem_filter]; simp
theorem walk_end {es : Array MapEntry} {clock : Nat} {seen : Array Nat} {f g : Int → Option Int} (hE : EntriesOk es.toList clock f) (h0 : leftL es seen = []) (h : WalkI es seen f g) : f = g := by
  funext x
  cases hf : f x with
  | none =>
    cases hg : g x with
    | none => rfl
    | some v => have := (h x v).1 hg; rw [hf] at this; cases this.1
  | some v =>
    obtain ⟨e, he, h1, h2⟩ := hE.2.2.2 x v hf
    refine ((h x v).2 ⟨hf, e, he, h1, ?_⟩).symm
    by_cases hb : e.born ∈ seen.toList
    · exact hb
    · have : e ∈ leftL es seen := left_mem.2 ⟨he, hb⟩
      rw [h0] at this; cases this
theorem walk_step {es : Array MapEntry} {clock : Nat} {seen : Array Nat} {f g : Int → Option Int} {x0 : MapEntry} {k v : Int} (hE : EntriesOk es.toList clock f) (hx : x0 ∈ leftL es seen) (hk : x0.key = .int .i64 k) (hf : f k = some v) (h : WalkI es seen f g) : WalkI es (seen.push x0.born) f (mapSet g k v) := by
  have hm := (left_mem.1 hx).1
  intro x u
  unfold mapSet
  by_cases hxk : x = k
  · subst hxk
    rw [if_pos rfl]
    constructor
    · intro hu; cases hu
      exact ⟨hf, x0, hm, hk, by simp⟩
    · rintro ⟨h1, _⟩; rw [hf] at h1; exact h1
  · rw [if_neg hxk, h x u]
    constructor
    · rintro ⟨h1, e, he, h2, h3⟩; exact ⟨h1, e, he, h2, by simp at h3 ⊢; exact .inl h3⟩
    · rintro ⟨h1, e, he, h2, h3⟩
      refine ⟨h1, e, he, h2, ?_⟩
      simp at h3
      rcases h3 with h3 | h3
      · simpa using h3
      · exfalso
        have : e = x0 := by
          have hn := hE.2.2.1
          have a1 := find_born e es.toList hn he
          have a2 := find_born x0 es.toList hn hm
          rw [h3] at a1; rw [a1] at a2; cases a2; rfl
        subst this
        rw [hk] at h2; cases h2; exact hxk rfl
theorem walk_less {es : Array MapEntry} {seen : Array Nat} {x0 : MapEntry} (hx : x0 ∈ leftL es seen) : (leftL es (seen.push x0.born)).length < (leftL es seen).length := by
  have e1 : leftL es (seen.push x0.born) = (leftL es seen).filter fun e => !(e.born == x0.born) := by
    unfold leftL
    rw [List.filter_filter]
    congr 1
    funext e
    rw [Bool.eq_iff_iff]
    simp [not_or]
    exact And.comm
  rw [e1]
  refine List.length_filter_lt_length_iff_exists.2 ⟨x0, hx, by simp⟩
theorem walk_at {es : Array MapEntry} {clock : Nat} {seen : Array Nat} {f : Int → Option Int} {x0 : MapEntry} (hE : EntriesOk es.toList clock f) (hx : x0 ∈ leftL es seen) : x0 ∈ es.toList ∧ ∃ k v, x0.key = .int .i64 k ∧ x0.val = .int .i64 v ∧ f k = some v := by
  have hm := (left_mem.1 hx).1
  exact ⟨hm, (hE.1 x0 hm).2⟩
section
variable {P : Program} {C : Cx} {n : Nat} {ops : Array Oper} {K : List (Nat × Oper × Ev) → St → Prop} {r : List (Oper × Nat)} {acc : List (Nat × Oper × Ev)} {ix : Nat} {s : Nat → V} {m : Nat → Ob} {d : Tmp} {ty : TypeId} {pos : String} {after : Array Edge} {g : Option (Nat × Bool)}
theorem s_mkm {t : TypeId} (hr : Run P n ops K r ((ix, ⟨some d, .makeMap t none, ty, pos, after, g⟩, ⟨.ar d, [(d, .mp map0)], [d]⟩) :: acc) ⟨upd s d (.ar d), upd m d (.mp map0)⟩) (hg : guardOf n ops ⟨some d, .makeMap t none, ty, pos, after, g⟩ ⟨s, m⟩ = some true := by rfl) (h1 : isNo (m d) = true := by rfl) : Run P n ops K ((⟨some d, .makeMap t none, ty, pos, after, g⟩, ix) :: r) acc ⟨s, m⟩ :=
  run_gen (e := ⟨.ar d, [(d, .mp map0)], [d]⟩) hg (fun s' m' q1 q2 C G X w ρ hM hE => did_makeMap hM (by rw [q2 d (by simp)]; exact isNo_eq h1) rfl) hr
theorem s_look {t : TypeId} {x y : Operand} {q : Nat} {f : Int → Option Int} {i : Int} (ht : mapII P t = true) (hr : Run P n ops K r ((ix, ⟨some d, .lookup t x y false, ty, pos, after, g⟩, ⟨.t (.sc (.int .i64 (mapGet f i))), [], [q]⟩) :: acc) ⟨upd s d (.t (.sc (.int .i64 (mapGet f i)))), m⟩) (hg : guardOf n ops ⟨some d, .lookup t x y false, ty, pos, after, g⟩ ⟨s, m⟩ = some true := by rfl) (hx : ev n s x = .ar q := by conv => lhs; whnf) (hm : m q = .mp f := by conv => lhs; whnf) (hy : ev n s y = .t (.sc (.int .i64 i)) := by conv => lhs; whnf) : Run P n ops K ((⟨some d, .lookup t x y false, ty, pos, after, g⟩, ix) :: r) acc ⟨s, m⟩ :=
  run_gen (e := ⟨.t (.sc (.int .i64 (mapGet f i))), [], [q]⟩) hg (fun s' m' q1 q2 C G X w ρ hM hE => by
    have hx' := hE x
    have hy' := hE y
    rw [q1 x (by simp [Op.operands]), hx] at hx'
    rw [q1 y (by simp [Op.operands]), hy] at hy'
    exact did_lookup hM ht (by rw [q2 q (by simp)]; exact hm) rfl hx' hy') hr
theorem s_lookN {t : TypeId} {x y : Operand} {i : Int} (ht : mapII P t = true) (hr : Run P n ops K r ((ix, ⟨some d, .lookup t x y false, ty, pos, after, g⟩, ⟨.t (.sc (.int .i64 0)), [], []⟩) :: acc) ⟨upd s d (.t (.sc (.int .i64 0))), m⟩) (hg : guardOf n ops ⟨some d, .lookup t x y false, ty, pos, after, g⟩ ⟨s, m⟩ = some true := by rfl) (hx : ev n s x = .t (.sc .nim) := by conv => lhs; whnf) (hy : ev n s y = .t (.sc (.int .i64 i)) := by conv => lhs; whnf) : Run P n ops K ((⟨some d, .lookup t x y false, ty, pos, after, g⟩, ix) :: r) acc ⟨s, m⟩ :=
  run_gen (e := ⟨.t (.sc (.int .i64 0)), [], []⟩) hg (fun s' m' q1 q2 C G X w ρ hM hE => by
    have hx' := hE x
    have hy' := hE y
    rw [q1 x (by simp [Op.operands]), hx] at hx'
    rw [q1 y (by simp [Op.operands]), hy] at hy'
    exact did_lookupN hM ht rfl hx' hy') hr
theorem s_mupd {t : TypeId} {x y z : Operand} {q : Nat} {f : Int → Option Int} {i v : Int} (ht : mapII P t = true) (hr : Run P n ops K r ((ix, ⟨none, .mapUpdate t x y z, ty, pos, after, g⟩, ⟨.jk, [(q, .mp (mapSet f i v))], [q]⟩) :: acc) ⟨s, upd m q (.mp (mapSet f i v))⟩) (hg : guardOf n ops ⟨none, .mapUpdate t x y z, ty, pos, after, g⟩ ⟨s, m⟩ = some true := by rfl) (hx : ev n s x = .ar q := by conv => lhs; whnf) (hm : m q = .mp f := by conv => lhs; whnf) (hy : ev n s y = .t (.sc (.int .i64 i)) := by conv => lhs; whnf) (hz : ev n s z = .t (.sc (.int .i64 v)) := by conv => lhs; whnf) : Run P n ops K ((⟨none, .mapUpdate t x y z, ty, pos, after, g⟩, ix) :: r) acc ⟨s, m⟩ :=
  run_gen (e := ⟨.jk, [(q, .mp (mapSet f i v))], [q]⟩) hg (fun s' m' q1 q2 C G X w ρ hM hE => by
    have hx' := hE x
    have hy' := hE y
    have hz' := hE z
    rw [q1 x (by simp [Op.operands]), hx] at hx'
    rw [q1 y (by simp [Op.operands]), hy] at hy'
    rw [q1 z (by simp [Op.operands]), hz] at hz'
    exact did_mapUpdate hM ht (by rw [q2 q (by simp)]; exact hm) rfl hx' hy' hz') hr
theorem s_range {t : TypeId} {x : Operand} {q bm clock : Nat} {es : Array MapEntry} (ht : mapII P t = true) (hr : Run P n ops K r ((ix, ⟨some d, .range t x, ty, pos, after, g⟩, ⟨.ar d, [(d, .it (some bm) clock #[] clock)], [q, d]⟩) :: acc) ⟨upd s d (.ar d), upd m d (.it (some bm) clock #[] clock)⟩) (hg : guardOf n ops ⟨some d, .range t x, ty, pos, after, g⟩ ⟨s, m⟩ = some true := by rfl) (hx : ev n s x = .ar q := by conv => lhs; whnf) (hm : m q = .mpx bm es clock := by conv => lhs; whnf) (h1 : isNo (m d) = true := by rfl) : Run P n ops K ((⟨some d, .range t x, ty, pos, after, g⟩, ix) :: r) acc ⟨s, m⟩ :=
  run_gen (e := ⟨.ar d, [(d, .it (some bm) clock #[] clock)], [q, d]⟩) hg (fun s' m' q1 q2 C G X w ρ hM hE => by
    have hx' := hE x
    rw [q1 x (by simp [Op.operands]), hx] at hx'
    exact did_range hM (by rw [q2 d (by simp)]; exact isNo_eq h1) ht (by rw [q2 q (by simp)]; exact hm) rfl hx') hr
theorem s_rangeN {t : TypeId} {x : Operand} (ht : mapII P t = true) (hr : Run P n ops K r ((ix, ⟨some d, .range t x, ty, pos, after, g⟩, ⟨.ar d, [(d, .it none 0 #[] 0)], [d]⟩) :: acc) ⟨upd s d (.ar d), upd m d (.it none 0 #[] 0)⟩) (hg : guardOf n ops ⟨some d, .range t x, ty, pos, after, g⟩ ⟨s, m⟩ = some true := by rfl) (hx : ev n s x = .t (.sc .nim) := by conv => lhs; whnf) (h1 : isNo (m d) = true := by rfl) : Run P n ops K ((⟨some d, .range t x, ty, pos, after, g⟩, ix) :: r) acc ⟨s, m⟩ :=
  run_gen (e := ⟨.ar d, [(d, .it none 0 #[] 0)], [d]⟩) hg (fun s' m' q1 q2 C G X w ρ hM hE => by
    have hx' := hE x
    rw [q1 x (by simp [Op.operands]), hx] at hx'
    exact did_rangeN hM (by rw [q2 d (by simp)]; exact isNo_eq h1) ht rfl hx') hr
theorem s_entry {x : Operand} {q it bm si clock : Nat} {seen : Array Nat} {es : Array MapEntry} {x0 : MapEntry} {f : Int → Option Int} {k v : Int} (hE0 : EntriesOk es.toList clock f) (he : x0 ∈ es.toList) (hk : x0.key = .int .i64 k) (hv : x0.val = .int .i64 v) (hr : Run P n ops K r ((ix, ⟨some d, .entry x, ty, pos, after, g⟩, ⟨.tp [.t (.sc (.int .i64 k)), .t (.sc (.int .i64 v))], [], [q, it]⟩) :: acc) ⟨upd s d (.tp [.t (.sc (.int .i64 k)), .t (.sc (.int .i64 v))]), m⟩) (hm : m q = .mpx bm es clock := by conv => lhs; whnf) (hg : guardOf n ops ⟨some d, .entry x, ty, pos, after, g⟩ ⟨s, m⟩ = some true := by rfl) (hx : ev n s x = .ar it := by conv => lhs; whnf) (hi : m it = .it (some bm) si (seen.push x0.born) clock := by conv => lhs; whnf) : Run P n ops K ((⟨some d, .entry x, ty, pos, after, g⟩, ix) :: r) acc ⟨s, m⟩ :=
  run_gen (e := ⟨.tp [.t (.sc (.int .i64 k)), .t (.sc (.int .i64 v))], [], [q, it]⟩) hg (fun s' m' q1 q2 C G X w ρ hM hE => by
    have hx' := hE x
    rw [q1 x (by simp [Op.operands]), hx] at hx'
    have hmq : m' q = .mpx bm es clock := by rw [q2 q (by simp)]; exact hm
    refine did_entry hM hmq (by rw [q2 it (by simp)]; exact hi) he hE0.2.2.1 hk hv ?_ rfl hx'
    cases hX : X q with
    | none => rw [(hM.free q).1 hX] at hmq; cases hmq
    | some y => exact ⟨y, rfl⟩) hr
theorem s_nextN {x : Operand} {it : Nat} (hr : Run P n ops K r ((ix, ⟨some d, .next x false, ty, pos, after, g⟩, ⟨.tp [.t (.sc (.bool false))], [], [it]⟩) :: acc) ⟨upd s d (.tp [.t (.sc (.bool false))]), m⟩) (hg : guardOf n ops ⟨some d, .next x false, ty, pos, after, g⟩ ⟨s, m⟩ = some true := by rfl) (hx : ev n s x = .ar it := by conv => lhs; whnf) (hi : m it = .it none 0 #[] 0 := by conv => lhs; whnf) : Run P n ops K ((⟨some d, .next x false, ty, pos, after, g⟩, ix) :: r) acc ⟨s, m⟩ :=
  run_gen (e := ⟨.tp [.t (.sc (.bool false))], [], [it]⟩) hg (fun s' m' q1 q2 C G X w ρ hM hE => by
    have hx' := hE x
    rw [q1 x (by simp [Op.operands]), hx] at hx'
    rw [next_runN hM (by rw [q2 it (by simp)]; exact hi) rfl hx']
    refine did_value hM ?_
    rw [V.Is]
    refine ⟨_, rfl, ?_⟩
    rw [V.IsL]; refine ⟨_, _, rfl, by rw [V.Is, T.Is]; rfl, ?_⟩
    rw [V.IsL]) hr
end
section
variable {P : Program} {C : Cx} {n : Nat} {Q : Exit → St → Prop} {s : Nat → V} {m : Nat → Ob}
theorem awp_next {id : Nat} {d1 d2 : Tmp} {x : Operand} {ty ty2 : TypeId} {pos pos2 : String} {after after2 : Array Edge} {it bm clock : Nat} {seen : Array Nat} {es : Array MapEntry} {f : Int → Option Int} (q : Nat) (hE : EntriesOk es.toList clock f)
    (h0 : leftL es seen = [] → Q .normal ⟨upd (upd s d1 (.tp [.t (.sc (.bool false))])) d2 (.t (.sc (.bool false))), m⟩)
    (h1 : ∀ x0 ∈ leftL es seen, Q .normal ⟨upd (upd s d1 (.tp [.t (.sc (.bool true)), .jk, .jk])) d2 (.t (.sc (.bool true))), upd m it (.it (some bm) clock (seen.push x0.born) clock)⟩)
    (hm : m q = .mpx bm es clock := by conv => lhs; whnf) (hx : ev n s x = .ar it := by conv => lhs; whnf) (hi : m it = .it (some bm) clock seen clock := by conv => lhs; whnf) (hlt : decide (d1 < n) = true := by rfl) :
    AWP P C n (.region id #[⟨some d1, .next x false, ty, pos, after, none⟩, ⟨some d2, .extract (.tmp d1) 0, ty2, pos2, after2, none⟩] false) Q ⟨s, m⟩ := by
  have hlt := of_decide_eq_true hlt
  intro a w hR
  refine wp_region ?_
  show wpOps P #[⟨some d1, .next x false, ty, pos, after, none⟩, ⟨some d2, .extract (.tmp d1) 0, ty2, pos2, after2, none⟩] _ [0, 1] a w
  obtain ⟨G, X, hM, hdf, hs, ht⟩ := hR
  have hx' := Rel.evs ht x
  replace hx' : V.Is G X (ev n s x) (a.eval x) := hx'
  rw [hx] at hx'
  replace hM : Mem P C m w G X := hM
  have hq : ∃ y, X q = some y := by
    cases hX : X q with
    | none => rw [(hM.free q).1 hX] at hm; cases hm
    | some y => exact ⟨y, rfl⟩
  have tail : ∀ (vs : List V) (b : Bool) (m1 : Nat → Ob) (a' : Act) (w' : World), Rel P C n ⟨upd s d1 (.tp (.t (.sc (.bool b)) :: vs)), m1⟩ a' w' → Q .normal ⟨upd (upd s d1 (.tp (.t (.sc (.bool b)) :: vs))) d2 (.t (.sc (.bool b))), m1⟩ →
      wpOps P #[⟨some d1, .next x false, ty, pos, after, none⟩, ⟨some d2, .extract (.tmp d1) 0, ty2, pos2, after2, none⟩] (fun e a' w' => ∃ st', Q e st' ∧ Rel P C n st' a' w') [1] a' w' := by
    intro vs b m1 a' w' hR' hQ
    have hrun : Run P n #[⟨some d1, .next x false, ty, pos, after, none⟩, ⟨some d2, .extract (.tmp d1) 0, ty2, pos2, after2, none⟩] (fun _ st' => Q .normal st') [(⟨some d2, .extract (.tmp d1) 0, ty2, pos2, after2, none⟩, 1)] [] ⟨upd s d1 (.tp (.t (.sc (.bool b)) :: vs)), m1⟩ :=
      s_ext (vs := .t (.sc (.bool b)) :: vs) (v := .t (.sc (.bool b))) (run_nil hQ) rfl (by simp only [ev, if_pos hlt, upd_same]) rfl rfl
    obtain ⟨ch, st', e1, e2, e3⟩ := run_chain (fun o i h => by simp at h; obtain ⟨rfl, rfl⟩ := h; rfl) hrun
    have := chain_sound (Q := fun e a' w' => ∃ st', Q e st' ∧ Rel P C n st' a' w') e1 (fun a w hR => ⟨st', by simpa using e3, hR⟩) hR'
    rw [e2] at this
    exact this
  rw [wpOps_cons]
  unfold wpOp
  simp only [List.getElem?_toArray, List.getElem?_cons_zero]
  have hw : Region.wanted (⟨some d1, .next x false, ty, pos, after, none⟩ : Oper) (yielded #[⟨some d1, .next x false, ty, pos, after, none⟩, ⟨some d2, .extract (.tmp d1) 0, ty2, pos2, after2, none⟩] a.tmps) = true := rfl
  rw [hw]
  simp only [if_true]
  left
  unfold Oper.wp
  rcases next_run hM hm hi hE hq (o := ⟨some d1, .next x false, ty, pos, after, none⟩) rfl hx' with ⟨hl, hrun⟩ | ⟨x0, hx0, w', hrun, hM'⟩
  · rw [show (execOp a.eval _).run P w = _ from hrun]
    refine tail [] false m _ _ ?_ (h0 hl)
    exact Rel.put (st := ⟨s, m⟩) (u := []) (v := .tp [.t (.sc (.bool false))]) hM hdf hs ht (Gle.refl G) (Xle.refl X) (by
      rw [V.Is]; refine ⟨_, rfl, ?_⟩
      rw [V.IsL]; refine ⟨_, _, rfl, by rw [V.Is, T.Is]; rfl, ?_⟩
      rw [V.IsL]) (some d1)
  · rw [show (execOp a.eval _).run P w = _ from hrun]
    refine tail [.jk, .jk] true _ _ _ ?_ (h1 x0 hx0)
    exact Rel.put (st := ⟨s, m⟩) (u := [(it, .it (some bm) clock (seen.push x0.born) clock)]) (v := .tp [.t (.sc (.bool true)), .jk, .jk]) hM' hdf hs ht (Gle.refl G) (Xle.refl X) (by
      rw [V.Is]; refine ⟨_, rfl, ?_⟩
      rw [V.IsL]; refine ⟨_, _, rfl, by rw [V.Is, T.Is]; rfl, ?_⟩
      rw [V.IsL]; refine ⟨_, _, rfl, by rw [V.Is]; trivial, ?_⟩
      rw [V.IsL]; refine ⟨_, _, rfl, by rw [V.Is]; trivial, ?_⟩
      rw [V.IsL]) (some d1)
theorem awp_nextS {id : Nat} {d1 d2 : Tmp} {x : Operand} {ty ty2 : TypeId} {pos pos2 : String} {after after2 : Array Edge} {it bm clock : Nat} {seen : Array Nat} {es : Array MapEntry} {f : Int → Option Int} (q : Nat) (hE : EntriesOk es.toList clock f)
    (h1 : ∀ x0 ∈ leftL es seen, Q .normal ⟨upd (upd s d1 (.tp [.t (.sc (.bool true)), .jk, .jk])) d2 (.t (.sc (.bool true))), upd m it (.it (some bm) clock (seen.push x0.born) clock)⟩)
    (h0 : leftL es seen = [] → Q .normal ⟨upd (upd s d1 (.tp [.t (.sc (.bool false))])) d2 (.t (.sc (.bool false))), m⟩)
    (hm : m q = .mpx bm es clock := by conv => lhs; whnf) (hx : ev n s x = .ar it := by conv => lhs; whnf) (hi : m it = .it (some bm) clock seen clock := by conv => lhs; whnf) (hlt : decide (d1 < n) = true := by rfl) :
    AWP P C n (.region id #[⟨some d1, .next x false, ty, pos, after, none⟩, ⟨some d2, .extract (.tmp d1) 0, ty2, pos2, after2, none⟩] false) Q ⟨s, m⟩ := awp_next q hE h0 h1 hm hx hi hlt
end
section
variable {P : Program} {n : Nat} {ops : Array Oper} {K : List (Nat × Oper × Ev) → St → Prop} {r : List (Oper × Nat)} {acc : List (Nat × Oper × Ev)} {ix : Nat} {s : Nat → V} {m : Nat → Ob} {d : Tmp} {ty : TypeId} {pos : String} {after : Array Edge} {g : Option (Nat × Bool)}
end
end Go.Abs
end
section
set_option linter.unusedVariables false
set_option linter.unusedSimpArgs false
namespace Go.Abs
theorem ints_rB : ∀ l : List Int, ints (l.map rB) = some l
  | [] => rfl
  | x :: xs => by
    show ints ([T.sc (.int .u8 x)] :: xs.map rB) = some (x :: xs)
    rw [ints, ints_rB xs]
section
variable {P : Program} {n : Nat} {ops : Array Oper} {K : List (Nat × Oper × Ev) → St → Prop} {r : List (Oper × Nat)} {acc : List (Nat × Oper × Ev)} {ix : Nat} {s : Nat → V} {m : Nat → Ob} {d : Tmp} {ty : TypeId} {pos : String} {after : Array Edge} {g : Option (Nat × Bool)}
theorem s_bst {l : List Int} {src dst e : TypeId} {x : Operand} {v : V} {u : List (Nat × Ob)} {m1 : Nat → Ob} {fp : List Nat} (hs : P.underlying src = some (.slice e)) (hd : P.underlying dst = some .string) (he : elOf P src = some (e, 1)) (h8 : P.underlying e = some (.int .u8))
    (hr : Run P n ops K r ((ix, ⟨some d, .convert src dst x, ty, pos, after, g⟩, ⟨.t (.sc (.str (strOf l))), u, fp⟩) :: acc) ⟨upd s d (.t (.sc (.str (strOf l)))), m1⟩)
    (hg : guardOf n ops ⟨some d, .convert src dst x, ty, pos, after, g⟩ ⟨s, m⟩ = some true := by rfl) (hx : ev n s x = v := by conv => lhs; whnf) (hv : toT m v = some (.sl (l.map rB)) := by first | (conv => lhs; whnf) | rfl)
    (hfu : fzU m (fz v) = u := by repeat (first | exact fzU_nil | (apply fzU_cons; focus ((conv => lhs; whnf); done)) | (apply fzU_skip; focus ((conv => lhs; whnf); done)))) (hm1 : app m u = m1 := by simp only [app]; rfl)
    (hfp : fpOf (idOf ⟨some d, .convert src dst x, ty, pos, after, g⟩) (ev n s) (.convert src dst x) = fp := by rfl) : Run P n ops K ((⟨some d, .convert src dst x, ty, pos, after, g⟩, ix) :: r) acc ⟨s, m⟩ := by
  subst hfu; subst hm1
  exact r_any (v := .t (.sc (.str (strOf l)))) (u := fzU m (fz v)) hg (by simp only [aeff, aconvert, hx, hs, hd, he, h8, hv, ints_rB]) hfp rfl rfl hr
end
end Go.Abs
end
section
set_option linter.unusedSimpArgs false
set_option linter.unusedVariables false
namespace Go.Abs
mutual
def T.lend : T → T
  | .sc s => .sc s
  | .sl es => .sl es
  | .ow _ es => .sl (T.lendR es)
  | .any => .any
def T.lendR : List (List T) → List (List T)
  | [] => []
  | r :: rs => T.lendC r :: T.lendR rs
def T.lendC : List T → List T
  | [] => []
  | t :: ts => t.lend :: T.lendC ts
end
theorem T.lendR_len : ∀ es : List (List T), (T.lendR es).length = es.length
  | [] => rfl
  | r :: rs => by rw [T.lendR, List.length_cons, List.length_cons, T.lendR_len rs]
theorem T.lendC_len : ∀ ts : List T, (T.lendC ts).length = ts.length
  | [] => rfl
  | t :: ts => by rw [T.lendC, List.length_cons, List.length_cons, T.lendC_len ts]
section
variable {P : Program} {G G1 : Im} {w : World}
mutual
theorem T.Is_lend (hG : Gle G G1) : ∀ (t : T) (x : Value), T.IsO P G w t x → (∀ b ∈ T.reach w t x, G1 b = some (cellsOf w b)) → T.Is G1 t.lend x
  | .sc _, x, h, _ => h
  | .sl es, x, h, _ => T.Is.mono hG (.sl es) x h
  | .any, x, h, _ => h
  | .ow e es, x, h, hb => by
    obtain ⟨xs, i, hi, hown, hr, hn⟩ := h
    rcases own_cases hown with ⟨⟨A, rfl⟩, h0, _⟩ | ⟨g, cap, cur, rfl, hg, hlt, h4, h5, h6, h7, hsub⟩
    · have : es = [] := List.eq_nil_of_length_eq_zero h0
      subst this
      exact ⟨A, 0, i.size, rfl, Nat.le_refl _, Nat.zero_le _, .inl rfl⟩
    · refine ⟨some ⟨g, 0, none⟩, cap + 1, i.size, by rw [T.lendR_len], by rw [T.lendR_len]; exact h4, h5, .inr ⟨g, 0, cellsOf w g, rfl, hb g (by rw [T.reach]; simp), ?_⟩⟩
      rw [List.drop_zero]
      exact T.Rows_lend hG i.size es (cellsOf w g) (T.RowsO.sub i.size es _ _ hsub hr) (fun b h => hb b (by rw [T.reach]; simp [h]))
theorem T.Rows_lend (hG : Gle G G1) (sz : Nat) : ∀ (es : List (List T)) (l : List Value), T.RowsO P G w sz es l → (∀ b ∈ T.reachR w es l, G1 b = some (cellsOf w b)) → T.Rows G1 sz (T.lendR es) l
  | [], _, _, _ => trivial
  | r :: rs, l, h, hb => by
    rw [T.reachR] at hb
    refine ⟨by rw [T.lendC_len]; exact h.1, T.Cells_lend hG r l h.2.1 (fun b hh => hb b (List.mem_append_left _ hh)), T.Rows_lend hG sz rs (l.drop sz) h.2.2 (fun b hh => hb b (List.mem_append_right _ (by rw [h.1]; exact hh)))⟩
theorem T.Cells_lend (hG : Gle G G1) : ∀ (ts : List T) (l : List Value), T.CellsO P G w ts l → (∀ b ∈ T.reachC w ts l, G1 b = some (cellsOf w b)) → T.Cells G1 (T.lendC ts) l
  | [], _, _, _ => trivial
  | t :: ts, l, h, hb => by
    obtain ⟨⟨c, hc, hi⟩, h2⟩ := h
    have e : l.getD 0 .nilIface = c := by rw [List.getD_eq_getElem?_getD, hc]; rfl
    rw [T.reachC, e] at hb
    exact ⟨⟨c, hc, T.Is_lend hG t c hi (fun b hh => hb b (List.mem_append_left _ hh))⟩, T.Cells_lend hG ts (l.drop 1) h2 (fun b hh => hb b (List.mem_append_right _ hh))⟩
end
mutual
theorem T.reach_cur : ∀ (t : T) (x : Value), T.IsO P G w t x → ∀ b ∈ T.reach w t x, ∃ cur e fr, w.heap[b]? = some (.cells cur e fr)
  | .sc _, x, _, b, hb => by cases x <;> simp [T.reach] at hb
  | .sl _, x, _, b, hb => by cases x <;> simp [T.reach] at hb
  | .any, x, _, b, hb => by cases x <;> simp [T.reach] at hb
  | .ow e es, x, h, b, hb => by
    obtain ⟨xs, i, hi, hown, hr, hn⟩ := h
    rcases own_cases hown with ⟨⟨A, rfl⟩, _⟩ | ⟨g, cap, cur, rfl, hg, hlt, _, _, _, _, hsub⟩
    · rw [reach_capless] at hb; cases hb
    · rw [T.reach] at hb
      rcases List.mem_cons.1 hb with rfl | hb
      · exact ⟨_, _, _, hg⟩
      · exact T.reachR_cur i.size es _ (T.RowsO.sub i.size es _ _ hsub hr) b hb
theorem T.reachR_cur (sz : Nat) : ∀ (es : List (List T)) (l : List Value), T.RowsO P G w sz es l → ∀ b ∈ T.reachR w es l, ∃ cur e fr, w.heap[b]? = some (.cells cur e fr)
  | [], _, _, b, hb => by simp [T.reachR] at hb
  | r :: rs, l, h, b, hb => by
    rw [T.reachR] at hb
    rcases List.mem_append.1 hb with hb | hb
    · exact T.reachC_cur r l h.2.1 b hb
    · rw [h.1] at hb; exact T.reachR_cur sz rs _ h.2.2 b hb
theorem T.reachC_cur : ∀ (ts : List T) (l : List Value), T.CellsO P G w ts l → ∀ b ∈ T.reachC w ts l, ∃ cur e fr, w.heap[b]? = some (.cells cur e fr)
  | [], _, _, b, hb => by simp [T.reachC] at hb
  | t :: ts, l, h, b, hb => by
    obtain ⟨⟨c, hc, hi⟩, h2⟩ := h
    rw [T.reachC, List.getD_eq_getElem?_getD, hc] at hb
    rcases List.mem_append.1 hb with hb | hb
    · exact T.reach_cur t c hi b hb
    · exact T.reachC_cur ts _ h2 b hb
end
end
mutual
def T.flat : T → Bool
  | .sc _ => true
  | .sl _ => false
  | .any => true
  | .ow _ es => T.flatR es
def T.flatR : List (List T) → Bool
  | [] => true
  | r :: rs => T.flatC r && T.flatR rs
def T.flatC : List T → Bool
  | [] => true
  | t :: ts => t.flat && T.flatC ts
end
section
variable {P : Program} {G G1 : Im} {w : World}
mutual
theorem T.IsO_flat : ∀ (t : T) (x : Value), t.flat = true → T.IsO P G1 w t x → (∀ b ∈ T.reach w t x, G b = none) → T.IsO P G w t x
  | .sc _, x, _, h, _ => h
  | .sl es, x, hf, _, _ => by rw [T.flat] at hf; cases hf
  | .any, x, _, h, _ => h
  | .ow e es, x, hf, h, hb => by
    rw [T.flat] at hf
    obtain ⟨xs, i, hi, hown, hr, hn⟩ := h
    rcases own_cases hown with ⟨⟨A, rfl⟩, h0, h1⟩ | ⟨g, cap, cur, rfl, hg, hlt, h4, h5, h6, h7, hsub⟩
    · have : es = [] := List.eq_nil_of_length_eq_zero h0
      subst this; subst h1
      exact ⟨[], i, hi, hown, trivial, fun a n c h => by cases h⟩
    · have hR := T.RowsO_flat i.size es (cellsOf w g) hf (T.RowsO.sub i.size es _ _ hsub hr) (fun b h => hb b (by rw [T.reach]; simp [h]))
      exact ⟨xs, i, hi, hown, T.RowsO.restrict i.size es xs (cellsOf w g) hsub hr hR, fun a n c h => by cases h; exact hb g (by rw [T.reach]; simp)⟩
theorem T.RowsO_flat (sz : Nat) : ∀ (es : List (List T)) (l : List Value), T.flatR es = true → T.RowsO P G1 w sz es l → (∀ b ∈ T.reachR w es l, G b = none) → T.RowsO P G w sz es l
  | [], _, _, _, _ => trivial
  | r :: rs, l, hf, h, hb => by
    rw [T.flatR, Bool.and_eq_true] at hf
    rw [T.reachR] at hb
    exact ⟨h.1, T.CellsO_flat r l hf.1 h.2.1 (fun b hh => hb b (List.mem_append_left _ hh)), T.RowsO_flat sz rs (l.drop sz) hf.2 h.2.2 (fun b hh => hb b (List.mem_append_right _ (by rw [h.1]; exact hh)))⟩
theorem T.CellsO_flat : ∀ (ts : List T) (l : List Value), T.flatC ts = true → T.CellsO P G1 w ts l → (∀ b ∈ T.reachC w ts l, G b = none) → T.CellsO P G w ts l
  | [], _, _, _, _ => trivial
  | t :: ts, l, hf, h, hb => by
    rw [T.flatC, Bool.and_eq_true] at hf
    obtain ⟨⟨c, hc, hi⟩, h2⟩ := h
    have e : l.getD 0 .nilIface = c := by rw [List.getD_eq_getElem?_getD, hc]; rfl
    rw [T.reachC, e] at hb
    exact ⟨⟨c, hc, T.IsO_flat t c hf.1 hi (fun b hh => hb b (List.mem_append_left _ hh))⟩, T.CellsO_flat ts (l.drop 1) hf.2 h2 (fun b hh => hb b (List.mem_append_right _ hh))⟩
end
theorem T.Cells_flat : ∀ (ts : List T) (l : List Value), T.flatC ts = true → T.Cells G1 ts l → T.Cells G ts l
  | [], _, _, _ => trivial
  | t :: ts, l, hf, h => by
    rw [T.flatC, Bool.and_eq_true] at hf
    obtain ⟨⟨c, hc, hi⟩, h2⟩ := h
    refine ⟨⟨c, hc, ?_⟩, T.Cells_flat ts _ hf.2 h2⟩
    cases t with
    | sc s => exact hi
    | any => exact hi
    | ow e es => exact hi.elim
    | sl es => exact absurd hf.1 (by rw [T.flat]; decide)
theorem T.Rows_flat (sz : Nat) : ∀ (es : List (List T)) (l : List Value), T.flatR es = true → T.Rows G1 sz es l → T.Rows G sz es l
  | [], _, _, _ => trivial
  | r :: rs, l, hf, h => by
    rw [T.flatR, Bool.and_eq_true] at hf
    exact ⟨h.1, T.Cells_flat r l hf.1 h.2.1, T.Rows_flat sz rs _ hf.2 h.2.2⟩
end
def Ob.flat : Ob → Bool
  | .no | .dead => true
  | .arr es _ md => md && T.flatR es
  | .dar es _ => T.flatR es
  | _ => false
theorem Ob.Ok.flat {P : Program} {G G1 : Im} {w : World} {X X1 : Xm} {o : Ob} {x : Value} (hf : o.flat = true) (h : Ob.Ok P G1 X1 w o x) (hb : ∀ b, o.has w x b → G b = none) : Ob.Ok P G X w o x := by
  cases o with
  | no => trivial
  | dead => trivial
  | arr es e md =>
    rw [Ob.flat, Bool.and_eq_true] at hf
    obtain ⟨xs, i, hi, hown, hr, hn⟩ := h
    refine ⟨xs, i, hi, hown, T.Rows_flat i.size es xs hf.2 hr, fun a n c ha => ?_⟩
    subst ha
    rw [hf.1]
    exact hb a.block rfl
  | dar es e =>
    rw [Ob.flat] at hf
    exact ⟨T.IsO_flat (.ow e es) x (by rw [T.flat]; exact hf) h.1 hb, h.2⟩
  | box cs => cases hf
  | ro es => cases hf
  | dah es e hs => cases hf
  | mp f => cases hf
  | mpx bm es clock => cases hf
  | it mo si seen c0 => cases hf
def Ob.lends : Ob → Bool
  | .no => true
  | .arr _ _ md => md
  | .dar _ _ => true
  | _ => false
mutual
def V.lend (m : Nat → Ob) : V → V
  | .ar k => match m k with
    | .arr es _ _ => .t (.sl es)
    | .dar es _ => .t (.sl (T.lendR es))
    | _ => .jk
  | .ag cs => .ag (V.lendL m cs)
  | .t y => .t y
  | .nl => .nl
  | .pe cs => .pe cs
  | .rf k off => .rf k off
  | .re k i sz off => .re k i sz off
  | .tp vs => .tp vs
  | .fn f caps => .fn f caps
  | .jk => .jk
  | .ze => .ze
  | .sn b y => .sn b y
def V.lendL (m : Nat → Ob) : List V → List V
  | [] => []
  | v :: vs => V.lend m v :: V.lendL m vs
end
mutual
def V.lends : V → Bool
  | .t _ => true
  | .nl => true
  | .ar _ => true
  | .ag cs => V.lendsL cs
  | .pe _ => false
  | .rf _ _ => false
  | .re _ _ _ _ => false
  | .tp _ => false
  | .fn _ _ => false
  | .jk => false
  | .ze => false
  | .sn _ _ => false
def V.lendsL : List V → Bool
  | [] => true
  | v :: vs => v.lends && V.lendsL vs
end
mutual
def V.flat : V → Bool
  | .t y => y.flat
  | .nl => true
  | .ar _ => true
  | .ag cs => V.flatL cs
  | .tp cs => V.flatL cs
  | .pe _ => false
  | .rf _ _ => false
  | .re _ _ _ _ => false
  | .fn _ _ => false
  | .jk => false
  | .ze => false
  | .sn _ _ => false
def V.flatL : List V → Bool
  | [] => true
  | v :: vs => v.flat && V.flatL vs
end
section
variable {P : Program} {G G1 : Im} {w : World} {X : Xm} {m : Nat → Ob}
mutual
theorem V.Is_lend (hG : Gle G G1) (hm : ∀ k x, X k = some x → Ob.Ok P G X w (m k) x) (hl : ∀ k, (m k).lends = true) (hno : ∀ k x, X k = some x → m k ≠ .no) (hb : ∀ k x b, X k = some x → (m k).has w x b → G1 b = some (cellsOf w b)) (X1 : Xm) : ∀ (v : V) (x : Value), v.lends = true → V.Is G X v x → V.Is G1 X1 (v.lend m) x
  | .t y, x, _, h => by rw [V.lend]; exact T.Is.mono hG y x h
  | .nl, x, _, h => by rw [V.lend]; exact h
  | .ar k, x, _, h => by
    replace h : X k = some x := h
    have ho := hm k x h
    have hlk := hl k
    have hnk := hno k x h
    have hbk := fun b => hb k x b h
    rw [V.lend]
    cases hmk : m k with
    | no => exact absurd hmk hnk
    | dead => rw [hmk] at hlk; cases hlk
    | box cs => rw [hmk] at hlk; cases hlk
    | ro es => rw [hmk] at hlk; cases hlk
    | dah es e hs => rw [hmk] at hlk; cases hlk
    | mp f => rw [hmk] at hlk; cases hlk
    | mpx bm es clock => rw [hmk] at hlk; cases hlk
    | it mo si seen c0 => rw [hmk] at hlk; cases hlk
    | arr es e md =>
      rw [hmk] at ho hbk
      obtain ⟨xs, i, hi, hown, hr, hn⟩ := ho
      show T.Is G1 (.sl es) x
      rcases own_cases hown with ⟨⟨A, rfl⟩, h0, _⟩ | ⟨g, cap, cur, rfl, hg, hlt, h4, h5, h6, h7, hsub⟩
      · have : es = [] := List.eq_nil_of_length_eq_zero h0
        subst this
        exact ⟨A, 0, i.size, rfl, Nat.le_refl _, Nat.zero_le _, .inl rfl⟩
      · refine ⟨some ⟨g, 0, none⟩, cap + 1, i.size, rfl, h4, h5, .inr ⟨g, 0, cellsOf w g, rfl, hbk g rfl, ?_⟩⟩
        rw [List.drop_zero]
        exact T.Rows.mono hG _ _ _ _ hsub hr
    | dar es e =>
      rw [hmk] at ho hbk
      exact T.Is_lend hG (.ow e es) x ho.1 (fun b hh => hbk b hh)
  | .ag cs, x, hv, h => by
    obtain ⟨xs, hx, h⟩ := h
    rw [V.lend]
    exact ⟨xs, hx, V.IsL_lend hG hm hl hno hb X1 cs _ (by rw [V.lends] at hv; exact hv) h⟩
  | .pe _, _, hv, _ => by rw [V.lends] at hv; cases hv
  | .rf _ _, _, hv, _ => by rw [V.lends] at hv; cases hv
  | .re _ _ _ _, _, hv, _ => by rw [V.lends] at hv; cases hv
  | .tp _, _, hv, _ => by rw [V.lends] at hv; cases hv
  | .fn _ _, _, hv, _ => by rw [V.lends] at hv; cases hv
  | .jk, _, hv, _ => by rw [V.lends] at hv; cases hv
  | .ze, _, hv, _ => by rw [V.lends] at hv; cases hv
  | .sn _ _, _, hv, _ => by rw [V.lends] at hv; cases hv
theorem V.IsL_lend (hG : Gle G G1) (hm : ∀ k x, X k = some x → Ob.Ok P G X w (m k) x) (hl : ∀ k, (m k).lends = true) (hno : ∀ k x, X k = some x → m k ≠ .no) (hb : ∀ k x b, X k = some x → (m k).has w x b → G1 b = some (cellsOf w b)) (X1 : Xm) : ∀ (vs : List V) (xs : List Value), V.lendsL vs = true → V.IsL G X vs xs → V.IsL G1 X1 (V.lendL m vs) xs
  | [], _, _, h => h
  | v :: vs, _, hv, ⟨y, ys, hx, h1, h2⟩ => by
    rw [V.lendsL, Bool.and_eq_true] at hv
    exact ⟨y, ys, hx, V.Is_lend hG hm hl hno hb X1 v y hv.1 h1, V.IsL_lend hG hm hl hno hb X1 vs ys hv.2 h2⟩
end
theorem T.Is_flat {t : T} {x : Value} (hf : t.flat = true) (h : T.Is G1 t x) : T.Is G t x := by
  cases t with
  | sc s => exact h
  | any => exact h
  | ow e es => exact h.elim
  | sl es => rw [T.flat] at hf; cases hf
mutual
theorem V.Is_flat {X1 : Xm} (hX : Xle X1 X) : ∀ (v : V) (x : Value), v.flat = true → V.Is G1 X1 v x → V.Is G X v x
  | .t y, x, hf, h => by rw [V.flat] at hf; exact T.Is_flat hf h
  | .nl, x, _, h => h
  | .ar k, x, _, h => hX k x h
  | .ag cs, x, hf, ⟨xs, hx, h⟩ => ⟨xs, hx, V.IsL_flat hX cs _ (by rw [V.flat] at hf; exact hf) h⟩
  | .tp cs, x, hf, ⟨xs, hx, h⟩ => ⟨xs, hx, V.IsL_flat hX cs _ (by rw [V.flat] at hf; exact hf) h⟩
  | .pe _, _, hv, _ => by rw [V.flat] at hv; cases hv
  | .rf _ _, _, hv, _ => by rw [V.flat] at hv; cases hv
  | .re _ _ _ _, _, hv, _ => by rw [V.flat] at hv; cases hv
  | .fn _ _, _, hv, _ => by rw [V.flat] at hv; cases hv
  | .jk, _, hv, _ => by rw [V.flat] at hv; cases hv
  | .ze, _, hv, _ => by rw [V.flat] at hv; cases hv
  | .sn _ _, _, hv, _ => by rw [V.flat] at hv; cases hv
theorem V.IsL_flat {X1 : Xm} (hX : Xle X1 X) : ∀ (vs : List V) (xs : List Value), V.flatL vs = true → V.IsL G1 X1 vs xs → V.IsL G X vs xs
  | [], _, _, h => h
  | v :: vs, _, hv, ⟨y, ys, hx, h1, h2⟩ => by
    rw [V.flatL, Bool.and_eq_true] at hv
    exact ⟨y, ys, hx, V.Is_flat hX v y hv.1 h1, V.IsL_flat hX vs ys hv.2 h2⟩
end
end
def Ob.or : Ob → Ob → Ob
  | .no, r => r
  | o, _ => o
theorem Ob.or_no (r : Ob) : Ob.or .no r = r := rfl
theorem Ob.or_of {o : Ob} (h : o ≠ .no) (r : Ob) : o.or r = o := by cases o <;> first | rfl | exact absurd rfl h
theorem AC.lend {P : Program} {f : FuncId} {args cargs : List V} {os res os2 : Nat → Ob} {r : V} (hAC : AC P f cargs noOb r res) (hc : V.lendL os args = cargs) (hl : ∀ k, (os k).lends = true) (ha : V.lendsL args = true)
    (hr : r.flat = true) (hf : ∀ k, (res k).flat = true) (hdis : ∀ k, os k ≠ .no → res k = .no) (h2 : ∀ k, os2 k = (os k).or (res k)) : AC P f args os r os2 := by
  subst hc
  obtain ⟨hfn, hAC⟩ := hAC
  refine ⟨hfn, ?_⟩
  intro w G X own xs hM hx
  classical
  let G1 : Im := fun b => if (∃ k x, X k = some x ∧ (os k).has w x b) then some (cellsOf w b) else G b
  have hGn : ∀ k x b, X k = some x → (os k).has w x b → G b = none ∧ ∃ cur e fr, w.heap[b]? = some (.cells cur e fr) := by
    intro k x b hk hb
    have ho := hM.ob k x hk
    have hlk := hl k
    cases hok : os k with
    | no => rw [hok] at hb; exact (Ob.has_no hb).elim
    | dead => rw [hok] at hlk; cases hlk
    | box cs => rw [hok] at hlk; cases hlk
    | ro es => rw [hok] at hlk; cases hlk
    | dah es e hs => rw [hok] at hlk; cases hlk
    | mp f => rw [hok] at hlk; cases hlk
    | mpx bm es clock => rw [hok] at hlk; cases hlk
    | it mo si seen c0 => rw [hok] at hlk; cases hlk
    | arr es e md =>
      rw [hok] at ho hb hlk
      have hmd : md = true := hlk
      subst hmd
      obtain ⟨ys, i, hi, hown, hrr, hn⟩ := ho
      obtain ⟨a, n, c, rfl, rfl⟩ := Ob.has_arr'.1 hb
      refine ⟨by simpa using hn a n c rfl, ?_⟩
      rcases own_cases hown with ⟨⟨A, h⟩, _⟩ | ⟨g, cap, cur, h, hg, _⟩
      · cases h
      · cases h; exact ⟨_, _, _, hg⟩
    | dar es e =>
      rw [hok] at ho hb
      exact ⟨(T.reach_lt _ _ ho.1 b hb).2, T.reach_cur _ _ ho.1 b hb⟩
  have hG1 : ∀ k x b, X k = some x → (os k).has w x b → G1 b = some (cellsOf w b) := fun k x b hk hb => if_pos ⟨k, x, hk, hb⟩
  have hG : Gle G G1 := by
    intro b cs hb
    have : ¬ ∃ k x, X k = some x ∧ (os k).has w x b := by
      rintro ⟨k, x, hk, hh⟩
      rw [(hGn k x b hk hh).1] at hb; cases hb
    exact ⟨[], by rw [List.append_nil]; show (if _ then _ else _) = _; rw [if_neg this]; exact hb⟩
  have hgok : Gok G1 w := by
    intro b cs hb
    by_cases h : ∃ k x, X k = some x ∧ (os k).has w x b
    · obtain ⟨k, x, hk, hh⟩ := h
      rw [hG1 k x b hk hh, Option.some.injEq] at hb
      obtain ⟨_, cur, e, fr, hw⟩ := hGn k x b hk hh
      refine ⟨cur, e, fr, hw, [], ?_⟩
      rw [← hb, List.append_nil]
      unfold cellsOf; rw [hw]
    · have : G1 b = G b := if_neg h
      rw [this] at hb
      exact hM.gok b cs hb
  have hM0 : Mem P ⟨w, G1, fun _ => False, fun _ => none⟩ noOb w G1 (fun _ => none) :=
    ⟨⟨⟨hM.tabW, fun _ _ _ _ _ h => h⟩, Gle.refl _⟩, fun _ _ _ => rfl, hgok, Keeps.refl _ _, fun k x h => (by cases h), fun k => ⟨fun _ => rfl, fun _ => rfl⟩, fun k k2 x x2 b h => (by cases h), fun k x b h => (by cases h), fun k x h => (by cases h), fun k x h => (by cases h)⟩
  have hno : ∀ k x, X k = some x → os k ≠ .no := fun k x h e => by rw [(hM.free k).2 e] at h; cases h
  refine (hAC w G1 (fun _ => none) (fun _ => False) xs hM0 (V.IsL_lend hG hM.ob hl hno hG1 _ args xs ha hx)).mono ?_
  rintro e w' ⟨y, G', X', rfl, hM', hy⟩
  have hkeep : ∀ b, b < w.heap.size → w'.heap[b]? = w.heap[b]? := fun b hb => hM'.keeps.block b hb (fun h => h)
  have hnew : ∀ k x b, X' k = some x → (res k).has w' x b → w.heap.size ≤ b := fun k x b hk hb => (hM'.mine k x b hk hb).resolve_left (fun h => h)
  have hsame : ∀ k x b, X k = some x → (os k).has w x b → w'.heap[b]? = w.heap[b]? := fun k x b hk hb => hkeep b (hM.blk_lt hk hb)
  have hhas : ∀ k x b, X k = some x → ((os k).has w' x b ↔ (os k).has w x b) := fun k x b hk => Ob.has_congr (fun b hb => hsame k x b hk hb) (hM.ob k x hk) b
  let X2 : Xm := fun k => match X k with
    | some z => some z
    | none => X' k
  have hXX : Xle X X2 := fun k z hz => by show (match X k with | some z => some z | none => X' k) = _; rw [hz]
  have hXX' : Xle X' X2 := fun k z hz => by
    have hn : res k ≠ .no := fun e => by rw [(hM'.free k).2 e] at hz; cases hz
    have : X k = none := (hM.free k).2 (Classical.byContradiction fun h => hn (hdis k h))
    show (match X k with | some z => some z | none => X' k) = _
    rw [this]; exact hz
  have hX2 : ∀ k z, X2 k = some z → (X k = some z ∧ os2 k = os k) ∨ (X k = none ∧ X' k = some z ∧ os2 k = res k) := fun k z hz => by
    cases hk : X k with
    | some u =>
      have : X2 k = some u := hXX k u hk
      rw [this] at hz
      exact .inl ⟨hz, by rw [h2, Ob.or_of (hno k u hk)]⟩
    | none =>
      have : X2 k = X' k := by show (match X k with | some z => some z | none => X' k) = _; rw [hk]
      rw [this] at hz
      exact .inr ⟨rfl, hz, by rw [h2, (hM.free k).1 hk, Ob.or_no]⟩
  have hgw : Gok G w' := fun b cs hb => by
    obtain ⟨cur, e, fr, hw, hrst⟩ := hM.gok b cs hb
    exact ⟨cur, e, fr, by rw [hkeep b (hM.gok.lt hb)]; exact hw, hrst⟩
  refine ⟨y, G, X2, rfl, ⟨hM.gle, fun _ _ _ => rfl, hgw, ⟨hM'.keeps.os, hM'.keeps.tape, hM'.keeps.output, hM'.keeps.size, fun b hb _ => hkeep b hb⟩, ?_, ?_, ?_, ?_, ?_, hXX⟩, V.Is_flat hXX' r y hr hy⟩
  · intro k z hz
    rcases hX2 k z hz with ⟨hk, ho⟩ | ⟨hk, hk', ho⟩ <;> rw [ho]
    · exact (hM.ob k z hk).mono (Gle.refl G) hXX (fun _ _ => rfl) (fun b hb => hsame k z b hk hb)
    · exact Ob.Ok.flat (hf k) (hM'.ob k z hk') (fun b hb => hM.gok.none (hnew k z b hk' hb))
  · intro k
    rw [h2]
    by_cases hk : os k = .no
    · rw [hk, Ob.or_no]
      have : X2 k = X' k := by show (match X k with | some z => some z | none => X' k) = _; rw [(hM.free k).2 hk]
      rw [this]; exact hM'.free k
    · rw [Ob.or_of hk]
      refine ⟨fun h => ?_, fun h => absurd h hk⟩
      cases hXk : X k with
      | none => exact (hM.free k).1 hXk
      | some u => rw [hXX k u hXk] at h; cases h
  · intro k k' z z' b hz hz' hb hb'
    rcases hX2 k z hz with ⟨hk, ho⟩ | ⟨hk, hk1, ho⟩ <;> rcases hX2 k' z' hz' with ⟨hk', ho'⟩ | ⟨hk', hk1', ho'⟩ <;> rw [ho] at hb <;> rw [ho'] at hb'
    · exact hM.apart k k' z z' b hk hk' ((hhas k z b hk).1 hb) ((hhas k' z' b hk').1 hb')
    · have h1 := hM.blk_lt hk ((hhas k z b hk).1 hb)
      have h3 := hnew k' z' b hk1' hb'
      omega
    · have h1 := hM.blk_lt hk' ((hhas k' z' b hk').1 hb')
      have h3 := hnew k z b hk1 hb
      omega
    · exact hM'.apart k k' z z' b hk1 hk1' hb hb'
  · intro k z b hz hb
    rcases hX2 k z hz with ⟨hk, ho⟩ | ⟨hk, hk1, ho⟩ <;> rw [ho] at hb
    · exact hM.mine k z b hk ((hhas k z b hk).1 hb)
    · exact .inr (hnew k z b hk1 hb)
  · intro k z hz
    rcases hX2 k z hz with ⟨hk, ho⟩ | ⟨hk, hk1, ho⟩
    · exact hM.cell k z hk
    · exact hM'.cell k z hk1
end Go.Abs
end
section
set_option linter.unusedSimpArgs false
set_option linter.unusedVariables false
namespace Go.Abs
theorem lend_rI : ∀ l : List Int, T.lendR (l.map rI) = l.map rI
  | [] => rfl
  | x :: xs => by rw [List.map_cons, T.lendR, lend_rI xs]; rfl
theorem flat_rI : ∀ l : List Int, T.flatR (l.map rI) = true
  | [] => rfl
  | x :: xs => by rw [List.map_cons, T.flatR, flat_rI xs]; rfl
theorem lendC_append : ∀ a b : List T, T.lendC (a ++ b) = T.lendC a ++ T.lendC b
  | [], b => rfl
  | x :: a, b => by rw [List.cons_append, T.lendC, T.lendC, lendC_append a b, List.cons_append]
theorem flatC_append : ∀ a b : List T, T.flatC (a ++ b) = (T.flatC a && T.flatC b)
  | [], b => rfl
  | x :: a, b => by rw [List.cons_append, T.flatC, T.flatC, flatC_append a b, Bool.and_assoc]
mutual
def Form.rowD (eI eF : Nat) : Form → List T
  | .mk kind name n scopes kids => [ti kind, tstr name, ti n, .ow eI (scopes.map rI), .ow eF (Form.rowsD eI eF kids)]
def Form.rowsD (eI eF : Nat) : List Form → List (List T)
  | [] => []
  | x :: xs => x.rowD eI eF :: Form.rowsD eI eF xs
end
theorem Form.rowsD_eq (eI eF : Nat) : ∀ l : List Form, Form.rowsD eI eF l = l.map (Form.rowD eI eF)
  | [] => rfl
  | x :: xs => by rw [Form.rowsD, Form.rowsD_eq eI eF xs, List.map_cons]
theorem Form.rowD_eq (eI eF : Nat) (x : Form) : x.rowD eI eF = [ti x.kind, tstr x.name, ti x.n, .ow eI (x.scopes.map rI), .ow eF (x.kids.map (Form.rowD eI eF))] := by
  obtain ⟨a, b, c, d, e⟩ := x; rw [Form.rowD, Form.rowsD_eq]; rfl
mutual
theorem Form.lend (eI eF : Nat) : ∀ x : Form, T.lendC (x.rowD eI eF) = x.row
  | .mk a b c d e => by
    have h := Form.lends eI eF e
    rw [Form.rowD, Form.row_mk]
    simp only [T.lendC, T.lend, ti, tstr, lend_rI, h, Form.rows_eq]
theorem Form.lends (eI eF : Nat) : ∀ l : List Form, T.lendR (Form.rowsD eI eF l) = Form.rows l
  | [] => rfl
  | x :: xs => by rw [Form.rowsD, T.lendR, Form.lend eI eF x, Form.lends eI eF xs, Form.rows]
end
mutual
theorem Form.flat (eI eF : Nat) : ∀ x : Form, T.flatC (x.rowD eI eF) = true
  | .mk a b c d e => by
    have h := Form.flats eI eF e
    rw [Form.rowD]
    simp only [T.flatC, T.flat, ti, tstr, flat_rI, h, Bool.and_self]
theorem Form.flats (eI eF : Nat) : ∀ l : List Form, T.flatR (Form.rowsD eI eF l) = true
  | [] => rfl
  | x :: xs => by rw [Form.rowsD, T.flatR, Form.flat eI eF x, Form.flats eI eF xs]; rfl
end
mutual
def Core.rowD (eI eF eC : Nat) : Core → List T
  | .mk kind id name n ids data kids => [ti kind, ti id, tstr name, ti n, .ow eI (ids.map rI)] ++ (data.rowD eI eF ++ [.ow eC (Core.rowsD eI eF eC kids)])
def Core.rowsD (eI eF eC : Nat) : List Core → List (List T)
  | [] => []
  | x :: xs => x.rowD eI eF eC :: Core.rowsD eI eF eC xs
end
theorem Core.rowsD_eq (eI eF eC : Nat) : ∀ l : List Core, Core.rowsD eI eF eC l = l.map (Core.rowD eI eF eC)
  | [] => rfl
  | x :: xs => by rw [Core.rowsD, Core.rowsD_eq eI eF eC xs, List.map_cons]
mutual
theorem Core.lend (eI eF eC : Nat) : ∀ x : Core, T.lendC (x.rowD eI eF eC) = x.row
  | .mk a b c d i da e => by
    have h := Core.lends eI eF eC e
    rw [Core.rowD, Core.row, lendC_append, lendC_append, Form.lend]
    simp only [T.lendC, T.lend, ti, tstr, lend_rI, h, ints64, List.append_assoc, List.cons_append, List.nil_append]
theorem Core.lends (eI eF eC : Nat) : ∀ l : List Core, T.lendR (Core.rowsD eI eF eC l) = Core.rows l
  | [] => rfl
  | x :: xs => by rw [Core.rowsD, T.lendR, Core.lend eI eF eC x, Core.lends eI eF eC xs, Core.rows]
end
mutual
def Hit.rowD (eI eF eH : Nat) : Hit → List T
  | .mk name depth one many => name.rowD eI eF ++ ([ti depth] ++ (one.rowD eI eF ++ [.ow eH (Hit.rowsD eI eF eH many)]))
def Hit.rowsD (eI eF eH : Nat) : List Hit → List (List T)
  | [] => []
  | x :: xs => x.rowD eI eF eH :: Hit.rowsD eI eF eH xs
end
theorem Hit.rowsD_eq (eI eF eH : Nat) : ∀ l : List Hit, Hit.rowsD eI eF eH l = l.map (Hit.rowD eI eF eH)
  | [] => rfl
  | x :: xs => by rw [Hit.rowsD, Hit.rowsD_eq eI eF eH xs, List.map_cons]
mutual
theorem Hit.lend (eI eF eH : Nat) : ∀ x : Hit, T.lendC (x.rowD eI eF eH) = x.row
  | .mk a b c d => by
    have h := Hit.lends eI eF eH d
    rw [Hit.rowD, Hit.row, lendC_append, lendC_append, lendC_append, Form.lend, Form.lend]
    simp only [T.lendC, T.lend, ti, h, List.append_assoc, List.cons_append, List.nil_append]
theorem Hit.lends (eI eF eH : Nat) : ∀ l : List Hit, T.lendR (Hit.rowsD eI eF eH l) = Hit.rows l
  | [] => rfl
  | x :: xs => by rw [Hit.rowsD, T.lendR, Hit.lend eI eF eH x, Hit.lends eI eF eH xs, Hit.rows]
end
def Rule.rowD (eI eF : Nat) (x : Rule) : List T := x.pattern.rowD eI eF ++ x.template.rowD eI eF
theorem Rule.lend (eI eF : Nat) (x : Rule) : T.lendC (x.rowD eI eF) = x.row := by
  obtain ⟨a, b⟩ := x
  rw [Rule.rowD, Rule.row, lendC_append, Form.lend, Form.lend]; rfl
end Go.Abs
end
section
set_option linter.unusedSimpArgs false
set_option linter.unusedVariables false
namespace Go.Abs
section
variable {P : Program} {C : Cx} {m : Nat → Ob} {w : World} {G : Im} {X : Xm}
theorem Mem.takeLeafH (hM : Mem P C m w G X) {k d : Nat} {es : List (List T)} {e : TypeId} {x : Value} (hm : m k = .dar es e) (hx : X k = some x) (hd : m d = .no)
    {i j : Nat} {r : List T} {e' : TypeId} {es' : List (List T)} (hi : es[i]? = some r) (hj : r[j]? = some (.ow e' es')) :
    ∃ y inf g n c, P.info? e = some inf ∧ x = .slice (some ⟨g, 0, none⟩) n c ∧ (cellsOf w g)[i * inf.size + j]? = some y ∧ Xle X (upd X d (some y)) ∧
      Mem P C (upd (upd m k (.dah (es.set i (r.set j .any)) e [(i, j, d)])) d (.dar es' e')) w G (upd X d (some y)) := by
  have ho := hM.ob k x hx
  rw [hm] at ho
  obtain ⟨⟨xs, inf, hinf, hown, hr, hn⟩, hnd⟩ := ho
  have hil : i < es.length := (List.getElem?_eq_some_iff.1 hi).1
  have hown0 := hown
  rcases own_cases hown with ⟨_, h0, _⟩ | ⟨g, cap, cur, rfl, hg, hlt, h4, h5, h6, h7, hsub⟩
  · omega
  obtain ⟨y, hy, hyo⟩ := T.RowsO.get hr i j r _ hi hj
  have hyc := hsub _ _ hy
  have hperm := T.reachR_set (w := w) inf.size es (cellsOf w g) i j r _ (T.RowsO.len hr) hi hj
  rw [List.getD_eq_getElem?_getD, hyc, Option.getD_some] at hperm
  rw [T.reach] at hnd
  obtain ⟨hgn, hnd2⟩ := List.nodup_cons.1 hnd
  have hnd3 := hperm.nodup_iff.1 hnd2
  obtain ⟨n1, n2, n3⟩ := List.nodup_append.1 hnd3
  have hXd : X d = none := (hM.free d).2 hd
  have hkd : k ≠ d := by rintro rfl; rw [hx] at hXd; cases hXd
  have hle := Xle_upd (X := X) (k := d) (x := y) hXd
  have hkhas : ∀ b, b = g ∨ b ∈ T.reachR w es (cellsOf w g) → (m k).has w (.slice (some ⟨g, 0, none⟩) es.length (cap + 1)) b := fun b hb => by
    rw [hm]; show b ∈ T.reach w (.ow e es) _
    rw [T.reach]; exact List.mem_cons.2 hb
  have hyk : ∀ b, b ∈ T.reach w (.ow e' es') y → (m k).has w (.slice (some ⟨g, 0, none⟩) es.length (cap + 1)) b := fun b hb => hkhas b (.inr (hperm.mem_iff.2 (List.mem_append_left _ hb)))
  have hsk : ∀ b, b = g ∨ b ∈ T.reachR w (es.set i (r.set j .any)) (cellsOf w g) → (m k).has w (.slice (some ⟨g, 0, none⟩) es.length (cap + 1)) b := fun b hb => hkhas b (hb.imp id fun hb => hperm.mem_iff.2 (List.mem_append_right _ hb))
  have hmd : upd (upd m k (.dah (es.set i (r.set j .any)) e [(i, j, d)])) d (.dar es' e') d = .dar es' e' := upd_same _ _ _
  have hmk : upd (upd m k (.dah (es.set i (r.set j .any)) e [(i, j, d)])) d (.dar es' e') k = .dah (es.set i (r.set j .any)) e [(i, j, d)] := by rw [upd_ne _ _ _ hkd, upd_same]
  have hmo : ∀ k1, k1 ≠ d → k1 ≠ k → upd (upd m k (.dah (es.set i (r.set j .any)) e [(i, j, d)])) d (.dar es' e') k1 = m k1 := fun k1 h1 h2 => by rw [upd_ne _ _ _ h1, upd_ne _ _ _ h2]
  have hf : ∀ k1 x1 b, upd X d (some y) k1 = some x1 → (upd (upd m k (.dah (es.set i (r.set j .any)) e [(i, j, d)])) d (.dar es' e') k1).has w x1 b →
      (k1 = d ∧ b ∈ T.reach w (.ow e' es') y) ∨ (k1 = k ∧ (b = g ∨ b ∈ T.reachR w (es.set i (r.set j .any)) (cellsOf w g))) ∨ (k1 ≠ d ∧ k1 ≠ k ∧ X k1 = some x1 ∧ (m k1).has w x1 b) := by
    intro k1 x1 b h1 hb
    by_cases e1 : k1 = d
    · subst e1
      rw [upd_same] at h1; cases h1
      rw [hmd] at hb
      exact .inl ⟨rfl, hb⟩
    · rw [upd_ne _ _ _ e1] at h1
      by_cases e2 : k1 = k
      · subst e2
        rw [hx] at h1; cases h1
        rw [hmk] at hb
        replace hb : b ∈ T.reach w (.ow e (es.set i (r.set j .any))) (.slice (some ⟨g, 0, none⟩) es.length (cap + 1)) := hb
        rw [T.reach] at hb
        exact .inr (.inl ⟨rfl, List.mem_cons.1 hb⟩)
      · rw [hmo k1 e1 e2] at hb
        exact .inr (.inr ⟨e1, e2, h1, hb⟩)
  refine ⟨y, inf, g, es.length, cap + 1, hinf, rfl, hyc, hle, hM.gle, hM.gold, hM.gok, hM.keeps, ?_, ?_, ?_, ?_, ?_, fun k1 z hk => hle k1 z (hM.old k1 z hk)⟩
  · intro k1 x1 h1
    by_cases e1 : k1 = d
    · subst e1
      rw [upd_same] at h1; cases h1
      rw [hmd]
      exact ⟨hyo, n1⟩
    · rw [upd_ne _ _ _ e1] at h1
      by_cases e2 : k1 = k
      · subst e2
        rw [hx] at h1; cases h1
        rw [hmk]
        refine ⟨⟨xs, inf, hinf, by rw [List.length_set]; exact hown0, T.RowsO.set_any i j r hi T.IsO.one hr, hn⟩, ?_, fun z hz => ?_⟩
        · rw [T.reach]
          exact List.nodup_cons.2 ⟨fun h => hgn (hperm.mem_iff.2 (List.mem_append_right _ h)), n2⟩
        · rw [List.mem_singleton] at hz
          subst hz
          exact ⟨⟨g, 0, none⟩, es.length, cap, inf, y, rfl, hinf, upd_same _ _ _, hyc⟩
      · rw [hmo k1 e1 e2]
        exact (hM.ob k1 x1 h1).mono (Gle.refl G) hle (fun _ _ => rfl) (fun _ _ => rfl)
  · intro k1
    by_cases e1 : k1 = d
    · subst e1; rw [hmd, upd_same]; simp
    · rw [upd_ne _ _ _ e1]
      by_cases e2 : k1 = k
      · subst e2; rw [hmk, hx]; simp
      · rw [hmo k1 e1 e2]; exact hM.free k1
  · intro k1 k2 x1 x2 b h1 h2 hb1 hb2
    rcases hf k1 x1 b h1 hb1 with ⟨rfl, q1⟩ | ⟨rfl, q1⟩ | ⟨a1, a2, q1, q2⟩ <;> rcases hf k2 x2 b h2 hb2 with ⟨e2, p1⟩ | ⟨e2, p1⟩ | ⟨b1, b2, p1, p2⟩
    · exact e2.symm
    · rcases p1 with rfl | p1
      · exact absurd (hperm.mem_iff.2 (List.mem_append_left _ q1)) hgn
      · exact absurd rfl (n3 b q1 b p1)
    · exact absurd (hM.apart _ _ _ _ b hx p1 (hyk b q1) p2).symm b2
    · rcases q1 with rfl | q1
      · exact absurd (hperm.mem_iff.2 (List.mem_append_left _ p1)) hgn
      · exact absurd rfl (n3 b p1 b q1)
    · exact e2.symm
    · exact absurd (hM.apart _ _ _ _ b hx p1 (hsk b q1) p2).symm b2
    · exact absurd (hM.apart _ _ _ _ b hx q1 (hyk b p1) q2).symm a2
    · exact absurd (hM.apart _ _ _ _ b hx q1 (hsk b p1) q2).symm a2
    · exact hM.apart _ _ _ _ b q1 p1 q2 p2
  · intro k1 x1 b h1 hb1
    rcases hf k1 x1 b h1 hb1 with ⟨_, q1⟩ | ⟨_, q1⟩ | ⟨_, _, q1, q2⟩
    · exact hM.mine _ _ _ hx (hyk b q1)
    · exact hM.mine _ _ _ hx (hsk b q1)
    · exact hM.mine _ _ _ q1 q2
  · intro k1 x1 h1
    by_cases e1 : k1 = d
    · subst e1; rw [upd_same] at h1; cases h1; exact T.IsO.one _ _ hyo
    · rw [upd_ne _ _ _ e1] at h1; exact hM.cell _ _ h1
theorem Mem.putLeafD (hM : Mem P C m w G X) {k d : Nat} {es : List (List T)} {e : TypeId} {g n c : Nat} {y : Value} {cur : Array Value} {inf : TypeInfo} (hm : m k = .dar es e) (hx : X k = some (.slice (some ⟨g, 0, none⟩) n c)) (hinf : P.info? e = some inf)
    {i j : Nat} {r : List T} {e' : TypeId} {es' : List (List T)} (hkd : k ≠ d) (hd : m d = .dar es' e') (hXd : X d = some y) (hi : es[i]? = some r) (hj : r[j]? = some .any) (hw : w.heap[g]? = some (.cells cur e (0, 0))) :
    Mem P C (upd (upd m d .dead) k (.dar (es.set i (r.set j (.ow e' es'))) e)) (w.setRow g (cur.toList.set (i * inf.size + j) y).toArray) G X := by
  have ho := hM.ob k _ hx
  rw [hm] at ho
  obtain ⟨⟨xs, inf1, hinf1, hown, hr, hn⟩, hnd⟩ := ho
  rw [hinf] at hinf1; cases hinf1
  have hil : i < es.length := (List.getElem?_eq_some_iff.1 hi).1
  have hown0 := hown
  rcases own_cases hown with ⟨_, h00, _⟩ | ⟨g1, cap, cur1, h0, hg, hlt, h4, h5, h6, h7, hsub⟩
  · omega
  cases h0
  rw [hw] at hg; cases hg
  have hcel : cellsOf w g = cur.toList := cellsOf_eq hw
  have hGg : G g = none := hn _ _ _ rfl
  have hrl : r.length = inf.size := T.RowsO.len hr r (List.mem_of_getElem? hi)
  have hjl : j < inf.size := by rw [← hrl]; exact (List.getElem?_eq_some_iff.1 hj).1
  have hod := hM.ob d y hXd
  rw [hd] at hod
  obtain ⟨hleaf, hndl⟩ := hod
  have hreach : ∀ b, b ∈ T.reach w (.ow e' es') y → (m d).has w y b := fun b hb => by rw [hd]; exact hb
  have hkhas : ∀ b, b = g ∨ b ∈ T.reachR w es (cellsOf w g) → (m k).has w (.slice (some ⟨g, 0, none⟩) es.length (cap + 1)) b := fun b hb => by
    rw [hm]; show b ∈ T.reach w (.ow e es) _
    rw [T.reach]; exact List.mem_cons.2 hb
  have hdg : ∀ b, (m d).has w y b → b ≠ g := fun b hb h => hkd (hM.apart k d _ _ b hx hXd (hkhas b (.inl h)) hb)
  rw [T.reach] at hnd
  obtain ⟨hgn, hnd2⟩ := List.nodup_cons.1 hnd
  generalize hw' : w.setRow g (cur.toList.set (i * inf.size + j) y).toArray = w'
  have hoth : ∀ b, b ≠ g → w'.heap[b]? = w.heap[b]? := fun b hb => by rw [← hw']; exact setRow_other w g b _ hb
  have hwg : w'.heap[g]? = some (.cells (cur.toList.set (i * inf.size + j) y).toArray e (0, 0)) := by rw [← hw']; exact setRow_heap w g cur _ e _ hw
  have hcel' : cellsOf w' g = cur.toList.set (i * inf.size + j) y := by rw [cellsOf_eq hwg]
  have hRc := T.RowsO.congr (Gle.refl G) (w' := w') inf.size es (cellsOf w g) (fun b hb => ⟨hoth b (fun h => hgn (h ▸ hb)), rfl⟩) (T.RowsO.sub inf.size es _ _ hsub hr)
  have hR' := T.RowsO.restrict inf.size es xs (cellsOf w g) hsub hr hRc.1
  have hleaf' := T.IsO.congr (Gle.refl G) (w' := w') (.ow e' es') y (fun b hb => ⟨hoth b (hdg b (hreach b hb)), rfl⟩) hleaf
  have hRn := T.RowsO.set i j r hi hjl hleaf'.1 hR'
  have hxl : xs.length = es.length * inf.size := hown.1
  -- what it reaches
  have hri : r.set j .any = r := by
    apply List.ext_getElem?
    intro p
    rw [List.getElem?_set]
    split
    · rename_i h; subst h; rw [hj]; simp [hrl, hjl]
    · rfl
  have hes : (es.set i (r.set j (.ow e' es'))).set i ((r.set j (.ow e' es')).set j .any) = es := by
    rw [List.set_set, List.set_set, hri]
    apply List.ext_getElem?
    intro p
    rw [List.getElem?_set]
    split
    · rename_i h; subst h; rw [hi]
    · rfl
  have hperm := T.reachR_set (w := w') inf.size (es.set i (r.set j (.ow e' es'))) (cellsOf w' g) i j (r.set j (.ow e' es')) (.ow e' es') (T.RowsO.len hRn) (by rw [List.getElem?_set]; simp [hil]) (by rw [List.getElem?_set]; simp [hrl, hjl])
  have hpl : i * inf.size + j < cur.toList.length := by
    have h1 : (i + 1) * inf.size ≤ es.length * inf.size := Nat.mul_le_mul_right _ (by omega)
    have h2 : es.length * inf.size ≤ (cap + 1) * inf.size := Nat.mul_le_mul_right _ h4
    rw [Nat.succ_mul] at h1
    simp only [Array.length_toList]; omega
  have hget : (cellsOf w' g).getD (i * inf.size + j) .nilIface = y := by
    rw [hcel', List.getD_eq_getElem?_getD, List.getElem?_set]; simp [show i * inf.size + j < cur.size by simpa using hpl]
  have hsame : T.reachR w' es (cellsOf w' g) = T.reachR w es (cellsOf w g) := by
    rw [← hRc.2]
    refine T.reachR_agree inf.size es _ _ (T.RowsO.len hr) (fun i' j' r' t' hi' hj' ht' => ?_)
    rw [hcel', hcel, List.getElem?_set, if_neg]
    intro he
    have hj'l : j' < inf.size := by rw [← T.RowsO.len hr r' (List.mem_of_getElem? hi')]; exact (List.getElem?_eq_some_iff.1 hj').1
    obtain ⟨rfl, rfl⟩ := at_ne hj'l hjl he
    rw [hi] at hi'; cases hi'
    rw [hj] at hj'; cases hj'
    exact ht' rfl
  rw [hget, hes, hsame, hleaf'.2] at hperm
  have hyk : ∀ b, b ∈ T.reach w (.ow e' es') y → (m d).has w y b := fun b hb => hreach b hb
  have hmd : upd (upd m d .dead) k (.dar (es.set i (r.set j (.ow e' es'))) e) d = .dead := by rw [upd_ne _ _ _ hkd.symm, upd_same]
  have hmk : upd (upd m d .dead) k (.dar (es.set i (r.set j (.ow e' es'))) e) k = .dar (es.set i (r.set j (.ow e' es'))) e := upd_same _ _ _
  have hmo : ∀ k1, k1 ≠ d → k1 ≠ k → upd (upd m d .dead) k (.dar (es.set i (r.set j (.ow e' es'))) e) k1 = m k1 := fun k1 h1 h2 => by rw [upd_ne _ _ _ h2, upd_ne _ _ _ h1]
  have hng : ∀ k1 x1, k1 ≠ k → X k1 = some x1 → ∀ b, (m k1).has w x1 b → b ≠ g := fun k1 x1 h1 hx1 b hb h => h1 (hM.apart k1 k x1 _ b hx1 hx hb (hkhas b (.inl h)))
  have hf : ∀ k1 x1 b, X k1 = some x1 → (upd (upd m d .dead) k (.dar (es.set i (r.set j (.ow e' es'))) e) k1).has w' x1 b →
      (k1 = k ∧ (b ∈ T.reach w (.ow e' es') y ∨ (b = g ∨ b ∈ T.reachR w es (cellsOf w g)))) ∨ (k1 ≠ d ∧ k1 ≠ k ∧ (m k1).has w x1 b) := by
    intro k1 x1 b h1 hb
    by_cases e1 : k1 = d
    · subst e1; rw [hmd] at hb; exact (Ob.has_dead hb).elim
    · by_cases e2 : k1 = k
      · subst e2
        rw [hx] at h1; cases h1
        rw [hmk] at hb
        replace hb : b ∈ T.reach w' (.ow e (es.set i (r.set j (.ow e' es')))) (.slice (some ⟨g, 0, none⟩) es.length (cap + 1)) := hb
        rw [T.reach] at hb
        refine .inl ⟨rfl, ?_⟩
        rcases List.mem_cons.1 hb with hb | hb
        · exact .inr (.inl hb)
        · rcases List.mem_append.1 (hperm.mem_iff.1 hb) with hb | hb
          · exact .inl hb
          · exact .inr (.inr hb)
      · rw [hmo k1 e1 e2] at hb
        exact .inr ⟨e1, e2, (Ob.has_congr (fun b hb => hoth b (hng k1 x1 e2 h1 b hb)) (hM.ob k1 x1 h1) b).1 hb⟩
  refine ⟨hM.gle, hM.gold, by rw [← hw']; exact setRow_gok hM.gok hGg _, by rw [← hw']; exact setRow_keeps hM.keeps (hM.mine k _ g hx (hkhas g (.inl rfl))) _, ?_, ?_, ?_, ?_, hM.cell, hM.old⟩
  · intro k1 x1 h1
    by_cases e1 : k1 = d
    · subst e1; rw [hmd]; trivial
    · by_cases e2 : k1 = k
      · subst e2
        rw [hx] at h1; cases h1
        rw [hmk]
        refine ⟨⟨_, inf, hinf, ⟨?_, .inr ⟨g, cap, _, by rw [List.length_set], hwg, by rw [List.length_set]; exact h4, h5, ?_, ?_⟩⟩, hRn, hn⟩, ?_⟩
        · rw [List.length_set, List.length_set]; exact hxl
        · rw [List.size_toArray, List.length_set]; simpa using h6
        · rw [List.length_set]
          show (cur.toList.set (i * inf.size + j) y).take (es.length * inf.size) = xs.set (i * inf.size + j) y
          rw [List.take_set, h7]
        · rw [T.reach]
          refine List.nodup_cons.2 ⟨fun h => ?_, hperm.nodup_iff.2 (List.nodup_append.2 ⟨?_, hnd2, fun a ha b hb hab => ?_⟩)⟩
          · rcases List.mem_append.1 (hperm.mem_iff.1 h) with h | h
            · exact hdg _ (hyk _ h) rfl
            · exact hgn h
          · exact hndl
          · subst hab
            exact hkd (hM.apart _ d _ _ a hx hXd (hkhas a (.inr hb)) (hyk a ha))
      · rw [hmo k1 e1 e2]
        exact (hM.ob k1 x1 h1).mono (Gle.refl G) (Xle.refl X) (fun _ _ => rfl) (fun b hb => hoth b (hng k1 x1 e2 h1 b hb))
  · intro k1
    by_cases e1 : k1 = d
    · subst e1; rw [hmd, hXd]; simp
    · by_cases e2 : k1 = k
      · subst e2; rw [hmk, hx]; simp
      · rw [hmo k1 e1 e2]; exact hM.free k1
  · have hsrc : ∀ k1 x1 b, X k1 = some x1 → (upd (upd m d .dead) k (.dar (es.set i (r.set j (.ow e' es'))) e) k1).has w' x1 b → ∃ k0 x0, X k0 = some x0 ∧ (m k0).has w x0 b ∧ ((k1 = k ∧ (k0 = d ∨ k0 = k)) ∨ (k1 ≠ d ∧ k1 ≠ k ∧ k0 = k1)) := by
      intro k1 x1 b h1 hb
      rcases hf k1 x1 b h1 hb with ⟨rfl, q | q⟩ | ⟨a1, a2, q⟩
      · exact ⟨d, y, hXd, hyk b q, .inl ⟨rfl, .inl rfl⟩⟩
      · exact ⟨k1, _, hx, hkhas b q, .inl ⟨rfl, .inr rfl⟩⟩
      · exact ⟨k1, x1, h1, q, .inr ⟨a1, a2, rfl⟩⟩
    intro k1 k2 x1 x2 b h1 h2 hb1 hb2
    obtain ⟨p1, z1, a1, a2, a3⟩ := hsrc k1 x1 b h1 hb1
    obtain ⟨p2, z2, b1, b2, b3⟩ := hsrc k2 x2 b h2 hb2
    have hpp := hM.apart p1 p2 z1 z2 b a1 b1 a2 b2
    rcases a3 with ⟨rfl, a3⟩ | ⟨a3, a4, rfl⟩ <;> rcases b3 with ⟨e2, b3⟩ | ⟨b3, b4, rfl⟩
    · exact e2.symm
    · rcases a3 with rfl | rfl
      · exact absurd hpp.symm b3
      · exact absurd hpp.symm b4
    · subst e2
      rcases b3 with rfl | rfl
      · exact absurd hpp a3
      · exact absurd hpp a4
    · exact hpp
  · intro k1 x1 b h1 hb1
    rcases hf k1 x1 b h1 hb1 with ⟨_, q | q⟩ | ⟨_, _, q⟩
    · exact hM.mine _ _ _ hXd (hyk b q)
    · exact hM.mine _ _ _ hx (hkhas b q)
    · exact hM.mine _ _ _ h1 q
theorem Mem.joinHole (hM : Mem P C m w G X) {k d : Nat} {es : List (List T)} {e : TypeId} {i j : Nat} {hs : List (Nat × Nat × Nat)} (hm : m k = .dah es e ((i, j, d) :: hs))
    {r : List T} {e' : TypeId} {es' : List (List T)} (hd : m d = .dar es' e') (hi : es[i]? = some r) (hj : r[j]? = some .any) :
    Mem P C (upd (upd m d .dead) k (.dah (es.set i (r.set j (.ow e' es'))) e hs)) w G X := by
  cases hx : X k with
  | none => rw [(hM.free k).1 hx] at hm; cases hm
  | some x =>
    have ho := hM.ob k x hx
    rw [hm] at ho
    obtain ⟨h1, h2, h0⟩ := ho
    obtain ⟨a, n, c, inf, y, rfl, hinf, hXd, hcell⟩ := h0 (i, j, d) (by simp)
    have hkd : d ≠ k := by rintro rfl; rw [hm] at hd; cases hd
    have h1' := h1
    have hil := (List.getElem?_eq_some_iff.1 hi).1
    obtain ⟨xs, inf1, hinf1, hown, hr, hn⟩ := h1'
    rcases own_cases hown with ⟨_, h00, _⟩ | ⟨g, cap, cur, h0', hg, hlt, h4, h5, h6, h7, hsub⟩
    · omega
    cases h0'
    have hM1 : Mem P C (upd m k (.dar es e)) w G X := Mem.less2 hM k _ (fun x' hx' hok => by
      rw [hm] at hok ⊢
      exact ⟨⟨hok.1, hok.2.1⟩, fun b hb => hb⟩) ⟨fun h => by simp at h, fun h => by rw [hm] at h; cases h⟩
    have h3 := Mem.putLeafD (d := d) hM1 (upd_same _ _ _) hx hinf hkd.symm (by rw [upd_ne _ _ _ hkd]; exact hd) hXd hi hj hg
    replace hcell : (cellsOf w g)[i * inf.size + j]? = some y := hcell
    rw [cellsOf_eq hg] at hcell
    have hset : (cur.toList.set (i * inf.size + j) y).toArray = cur := by
      have : cur.toList.set (i * inf.size + j) y = cur.toList := by
        apply List.ext_getElem?
        intro p
        rw [List.getElem?_set]
        split
        · rename_i h; subst h; rw [hcell, if_pos (List.getElem?_eq_some_iff.1 hcell).1]
        · rfl
      rw [this]
    rw [hset, setRow_same hg] at h3
    have h5 := Mem.less2 h3 k (.dah (es.set i (r.set j (.ow e' es'))) e hs) (fun x' hx' hok => by
      rw [upd_same] at hok ⊢
      exact ⟨⟨hok.1, hok.2, fun z hz => by rw [hx] at hx'; cases hx'; exact h0 z (by simp [hz])⟩, fun b hb => hb⟩) ⟨fun h => by simp at h, fun h => by rw [upd_same] at h; cases h⟩
    have e1 : upd (upd (upd (upd m k (.dar es e)) d .dead) k (.dar (es.set i (r.set j (.ow e' es'))) e)) k (.dah (es.set i (r.set j (.ow e' es'))) e hs) = upd (upd m d .dead) k (.dah (es.set i (r.set j (.ow e' es'))) e hs) := by
      funext q; unfold upd; split
      · rfl
      · split <;> rfl
    rw [e1] at h5
    exact h5
theorem Mem.noHole (hM : Mem P C m w G X) {k : Nat} {es : List (List T)} {e : TypeId} (hm : m k = .dah es e []) : Mem P C (upd m k (.dar es e)) w G X :=
  Mem.less2 hM k _ (fun x' hx' hok => by
    rw [hm] at hok ⊢
    exact ⟨⟨hok.1, hok.2.1⟩, fun b hb => hb⟩) ⟨fun h => by simp at h, fun h => by rw [hm] at h; cases h⟩
end
end Go.Abs
end
section
set_option linter.unusedSimpArgs false
set_option linter.unusedVariables false
namespace Go.Abs
theorem splice_lt {α : Type} {l vs : List α} {off p : Nat} (hp : p < off) (ho : off ≤ l.length) : (splice l off vs)[p]? = l[p]? := by
  unfold splice
  rw [List.append_assoc, List.getElem?_append_left (by rw [List.length_take]; omega), List.getElem?_take_of_lt hp]
theorem splice_drop {α : Type} {l vs : List α} {s q : Nat} (h : s + q ≤ l.length) : (splice l (s + q) vs).drop s = splice (l.drop s) q vs := by
  unfold splice
  rw [List.append_assoc, List.drop_append_of_le_length (by rw [List.length_take]; omega), List.drop_take, Nat.add_sub_cancel_left, List.drop_drop, List.append_assoc, Nat.add_assoc]
theorem splice_zero {α : Type} (l vs : List α) : splice l 0 vs = vs ++ l.drop vs.length := by
  unfold splice; rw [List.take_zero, List.nil_append, Nat.zero_add]
theorem splice_take {α : Type} {l vs : List α} {off N : Nat} (h : off + vs.length ≤ N) (hN : N ≤ l.length) : (splice l off vs).take N = splice (l.take N) off vs := by
  unfold splice
  rw [List.take_append, List.take_append, List.length_append, List.length_take, List.take_take, List.take_take, List.drop_take]
  rw [Nat.min_eq_left (by omega : off ≤ l.length), Nat.min_eq_right (by omega : off ≤ N), Nat.min_eq_left (by omega : off ≤ N)]
  rw [List.take_of_length_le (by omega : vs.length ≤ N - off)]
section
variable {P : Program} {C : Cx} {m : Nat → Ob} {w : World} {G : Im} {X : Xm}
theorem T.RowsO_splice {sz : Nat} : ∀ {es : List (List T)} {l : List Value} (i : Nat) {fs : List T} {vs : List Value}, i < es.length → fs.length = sz → vs.length = sz → T.CellsO P G w fs vs → es.length * sz ≤ l.length → T.RowsO P G w sz es l → T.RowsO P G w sz (es.set i fs) (splice l (i * sz) vs)
  | [], _, _, _, _, h, _, _, _, _, _ => by simp at h
  | r0 :: rs, l, 0, fs, vs, _, hf, hv, hc, hl, h => by
    rw [Nat.zero_mul, splice_zero, List.set_cons_zero]
    refine ⟨hf, T.CellsO.sub fs _ _ (Sub.append vs _) hc, ?_⟩
    rw [hv, ← hv, List.drop_left]
    rw [hv]; exact h.2.2
  | r0 :: rs, l, i + 1, fs, vs, hi, hf, hv, hc, hl, h => by
    have hi' : i < rs.length := by simpa using hi
    rw [List.length_cons, Nat.succ_mul] at hl
    have h1 : (i + 1) * sz ≤ rs.length * sz := Nat.mul_le_mul_right _ hi'
    rw [Nat.succ_mul] at h1
    have e : (i + 1) * sz = sz + i * sz := by rw [Nat.succ_mul]; omega
    rw [e, List.set_cons_succ]
    refine ⟨h.1, T.CellsO.agree (fun p hp => splice_lt (by rw [h.1] at hp; omega) (by omega)) h.2.1, ?_⟩
    rw [splice_drop (by omega)]
    exact T.RowsO_splice i hi' hf hv hc (by rw [List.length_drop]; omega) h.2.2
theorem T.reachR_splice {sz : Nat} : ∀ {es : List (List T)} {l : List Value} (i : Nat) {fs : List T} {vs : List Value}, i < es.length → fs.length = sz → vs.length = sz → (∀ l', T.reachC w fs l' = []) → es.length * sz ≤ l.length → (∀ r ∈ es, r.length = sz) → (T.reachR w (es.set i fs) (splice l (i * sz) vs)).Sublist (T.reachR w es l)
  | [], _, _, _, _, h, _, _, _, _, _ => by simp at h
  | r0 :: rs, l, 0, fs, vs, _, hf, hv, hc, hl, h => by
    rw [Nat.zero_mul, splice_zero, List.set_cons_zero, T.reachR, T.reachR, hc, List.nil_append, hf, h r0 (by simp)]
    rw [show (vs ++ l.drop vs.length).drop sz = l.drop sz by rw [← hv, List.drop_left]]
    exact List.sublist_append_right _ _
  | r0 :: rs, l, i + 1, fs, vs, hi, hf, hv, hc, hl, h => by
    have hi' : i < rs.length := by simpa using hi
    have hr0 := h r0 (by simp)
    rw [List.length_cons, Nat.succ_mul] at hl
    have h1 : (i + 1) * sz ≤ rs.length * sz := Nat.mul_le_mul_right _ hi'
    rw [Nat.succ_mul] at h1
    have e : (i + 1) * sz = sz + i * sz := by rw [Nat.succ_mul]; omega
    rw [e, List.set_cons_succ, T.reachR, T.reachR, hr0, splice_drop (by omega)]
    rw [T.reachC_agree r0 l _ (fun p t hp _ => splice_lt (by have := (List.getElem?_eq_some_iff.1 hp).1; omega) (by omega))]
    exact List.Sublist.append_left (T.reachR_splice i hi' hf hv hc (by rw [List.length_drop]; omega) (fun r hr => h r (by simp [hr]))) _
theorem Mem.storeRow (hM : Mem P C m w G X) {k : Nat} {es : List (List T)} {e : TypeId} {g n c : Nat} {cur : Array Value} {inf : TypeInfo} (hm : m k = .dar es e) (hx : X k = some (.slice (some ⟨g, 0, none⟩) n c)) (hinf : P.info? e = some inf)
    {i : Nat} (hi : i < es.length) {fs : List T} {vs : List Value} (hf : fs.length = inf.size) (hv : vs.length = inf.size) (hc : T.Cells G fs vs) {hs : List (Nat × Nat × Nat)} (hh : ∀ h ∈ hs, h.1 = i ∧ ∃ y, X h.2.2 = some y ∧ vs[h.2.1]? = some y) (hw : w.heap[g]? = some (.cells cur e (0, 0))) :
    Mem P C (upd m k (.dah (es.set i fs) e hs)) (w.setRow g (splice cur.toList (i * inf.size) vs).toArray) G X := by
  have ho := hM.ob k _ hx
  rw [hm] at ho
  obtain ⟨⟨xs, inf1, hinf1, hown, hr, hn⟩, hnd⟩ := ho
  rw [hinf] at hinf1; cases hinf1
  have hown0 := hown
  rcases own_cases hown with ⟨_, h00, _⟩ | ⟨g1, cap, cur1, h0, hg, hlt, h4, h5, h6, h7, hsub⟩
  · omega
  cases h0
  rw [hw] at hg; cases hg
  have hGg : G g = none := hn _ _ _ rfl
  have hkhas : ∀ b, b = g ∨ b ∈ T.reachR w es (cellsOf w g) → (m k).has w (.slice (some ⟨g, 0, none⟩) es.length (cap + 1)) b := fun b hb => by
    rw [hm]; show b ∈ T.reach w (.ow e es) _
    rw [T.reach]; exact List.mem_cons.2 hb
  rw [T.reach] at hnd
  obtain ⟨hgn, hnd2⟩ := List.nodup_cons.1 hnd
  have hcel : cellsOf w g = cur.toList := cellsOf_eq hw
  have hxl : xs.length = es.length * inf.size := hown.1
  have h1 : (i + 1) * inf.size ≤ es.length * inf.size := Nat.mul_le_mul_right _ hi
  have h2 : es.length * inf.size ≤ (cap + 1) * inf.size := Nat.mul_le_mul_right _ h4
  rw [Nat.succ_mul] at h1
  have hcl : cur.toList.length = (cap + 1) * inf.size := by rw [Array.length_toList]; exact h6
  generalize hw' : w.setRow g (splice cur.toList (i * inf.size) vs).toArray = w'
  have hoth : ∀ b, b ≠ g → w'.heap[b]? = w.heap[b]? := fun b hb => by rw [← hw']; exact setRow_other w g b _ hb
  have hwg : w'.heap[g]? = some (.cells (splice cur.toList (i * inf.size) vs).toArray e (0, 0)) := by rw [← hw']; exact setRow_heap w g cur _ e _ hw
  have hcel' : cellsOf w' g = splice cur.toList (i * inf.size) vs := by rw [cellsOf_eq hwg]
  have hRc := T.RowsO.congr (Gle.refl G) (w' := w') inf.size es (cellsOf w g) (fun b hb => ⟨hoth b (fun h => hgn (h ▸ hb)), rfl⟩) (T.RowsO.sub inf.size es _ _ hsub hr)
  have hR' := T.RowsO.restrict inf.size es xs (cellsOf w g) hsub hr hRc.1
  have hcO : T.CellsO P G w' fs vs := T.CellsO_of fs vs hc
  have hRn := T.RowsO_splice i hi hf hv hcO (by omega) hR'
  have hsl := T.reachR_splice (w := w') (l := cellsOf w g) i hi hf hv (T.reachC_plain fs vs hc) (by rw [hcel]; omega) (T.RowsO.len hr)
  rw [hcel, ← hcel', ← hcel, hRc.2] at hsl
  have hre : T.reach w' (.ow e (es.set i fs)) (.slice (some ⟨g, 0, none⟩) es.length (cap + 1)) = g :: T.reachR w' (es.set i fs) (cellsOf w' g) := by rw [T.reach]
  rw [← hw'] at hre hRn hwg hcel' hsl ⊢
  refine Mem.rewrite hM hx (hkhas g (.inl rfl)) hGg _ (.dah (es.set i fs) e hs) (by simp) (fun b hb => hkhas b ?_) ?_
  · replace hb : b ∈ T.reach (w.setRow g (splice cur.toList (i * inf.size) vs).toArray) (.ow e (es.set i fs)) (.slice (some ⟨g, 0, none⟩) es.length (cap + 1)) := hb
    rw [hre] at hb
    exact (List.mem_cons.1 hb).imp id (fun h => hsl.subset h)
  · refine ⟨⟨_, inf, hinf, ⟨?_, .inr ⟨g, cap, _, by rw [List.length_set], hwg, by rw [List.length_set]; exact h4, h5, ?_, ?_⟩⟩, hRn, hn⟩, ?_, fun z hz => ?_⟩
    · rw [List.length_set, splice_length _ _ _ (by omega)]; exact hxl
    · rw [List.size_toArray, splice_length _ _ _ (by omega)]; exact hcl
    · rw [List.length_set]
      show (splice cur.toList (i * inf.size) vs).take (es.length * inf.size) = splice xs (i * inf.size) vs
      rw [splice_take (by omega) (by omega), h7]
    · rw [hre]
      exact List.nodup_cons.2 ⟨fun h => hgn (hsl.subset h), hsl.nodup hnd2⟩
    · obtain ⟨rfl, y, hXd, hy⟩ := hh z hz
      refine ⟨⟨g, 0, none⟩, es.length, cap, inf, y, rfl, hinf, hXd, ?_⟩
      show (cellsOf _ g)[z.1 * inf.size + z.2.1]? = some y
      have hzl := (List.getElem?_eq_some_iff.1 hy).1
      rw [hcel']
      unfold splice
      rw [List.append_assoc, List.getElem?_append_right (by rw [List.length_take]; omega), List.length_take, Nat.min_eq_left (by omega), Nat.add_sub_cancel_left, List.getElem?_append_left hzl]
      exact hy
end
end Go.Abs
end
section
set_option linter.unusedSimpArgs false
set_option linter.unusedVariables false
namespace Go.Abs
section
variable {P : Program} {C : Cx} {m : Nat → Ob} {w : World} {G : Im} {X : Xm}
theorem did_load_hole (hM : Mem P C m w G X) {t e : TypeId} {k i sz off d : Nat} {es : List (List T)} {r : List T} {e' : TypeId} {es' : List (List T)} (hm : m k = .dar es e) (hes : szOf P e = some sz) (hi : es[i]? = some r) (hj : r[off]? = some (.ow e' es')) (hd : m d = .no)
    (ht : aggOf P t = some false) {ρ : Operand → Value} {o : Oper} {x : Operand} (ho : o.op = .load t x) (hpx : V.Is G X (.re k i sz off) (ρ x)) :
    Did P C m G X ((execOp ρ o).run P w) (.ar d) [(k, .dah (es.set i (r.set off .any)) e [(i, off, d)]), (d, .dar es' e')] := by
  rw [V.Is] at hpx
  obtain ⟨b, n, c, hX, hx⟩ := hpx
  obtain ⟨y, inf, g, n', c', hinf, he, hyc, hle, hM'⟩ := hM.takeLeafH hm hX hd hi hj
  cases he
  have hsz : inf.size = sz := by simp [szOf, hinf] at hes; exact hes
  rw [hsz] at hyc
  obtain ⟨cur, e2, fr, hw, hcur⟩ := cellsOf_some hyc
  obtain ⟨z, hr, hz⟩ := run_load_is (P := P) (G := G) (X := upd X d (some y)) (t := t) (cells := [.ar d]) (v := .ar d) (by unfold takeT; rw [ht]; rfl) hw (o := i * sz + off) (by
    intro j v hv
    cases j with
    | zero =>
      have e1 : V.ar d = v := by simpa using hv
      subst e1
      exact ⟨y, by rw [List.getElem?_drop, Nat.add_zero]; exact hcur, by rw [V.Is, upd_same]⟩
    | succ j => simp at hv)
  refine ⟨.value z, z, w, G, _, ?_, .inl rfl, Gle.refl G, hle, hM', hz⟩
  simp [execOp, ho, hx, hr]
theorem Mem.setCell (hM : Mem P C m w G X) {k : Nat} {es : List (List T)} {e : TypeId} {g n c : Nat} {y : Value} {cur : Array Value} {inf : TypeInfo} (hm : m k = .dar es e) (hx : X k = some (.slice (some ⟨g, 0, none⟩) n c)) (hinf : P.info? e = some inf)
    {i j : Nat} {r : List T} {t0 t : T} (hi : es[i]? = some r) (hj : r[j]? = some t0) (h0 : ∀ (w : World) x, T.reach w t0 x = []) (hy : T.Is G t y) (hw : w.heap[g]? = some (.cells cur e (0, 0))) :
    Mem P C (upd m k (.dar (es.set i (r.set j t)) e)) (w.setRow g (cur.toList.set (i * inf.size + j) y).toArray) G X := by
  have ho := hM.ob k _ hx
  rw [hm] at ho
  obtain ⟨⟨xs, inf1, hinf1, hown, hr, hn⟩, hnd⟩ := ho
  rw [hinf] at hinf1; cases hinf1
  have hil : i < es.length := (List.getElem?_eq_some_iff.1 hi).1
  have hown0 := hown
  rcases own_cases hown with ⟨_, h00, _⟩ | ⟨g1, cap, cur1, h0', hg, hlt, h4, h5, h6, h7, hsub⟩
  · omega
  cases h0'
  rw [hw] at hg; cases hg
  have hcel : cellsOf w g = cur.toList := cellsOf_eq hw
  have hGg : G g = none := hn _ _ _ rfl
  have hrl : r.length = inf.size := T.RowsO.len hr r (List.mem_of_getElem? hi)
  have hjl : j < inf.size := by rw [← hrl]; exact (List.getElem?_eq_some_iff.1 hj).1
  have hkhas : ∀ b, b = g ∨ b ∈ T.reachR w es (cellsOf w g) → (m k).has w (.slice (some ⟨g, 0, none⟩) es.length (cap + 1)) b := fun b hb => by
    rw [hm]; show b ∈ T.reach w (.ow e es) _
    rw [T.reach]; exact List.mem_cons.2 hb
  rw [T.reach] at hnd
  obtain ⟨hgn, hnd2⟩ := List.nodup_cons.1 hnd
  generalize hw' : w.setRow g (cur.toList.set (i * inf.size + j) y).toArray = w'
  have hoth : ∀ b, b ≠ g → w'.heap[b]? = w.heap[b]? := fun b hb => by rw [← hw']; exact setRow_other w g b _ hb
  have hwg : w'.heap[g]? = some (.cells (cur.toList.set (i * inf.size + j) y).toArray e (0, 0)) := by rw [← hw']; exact setRow_heap w g cur _ e _ hw
  have hcel' : cellsOf w' g = cur.toList.set (i * inf.size + j) y := by rw [cellsOf_eq hwg]
  have hRc := T.RowsO.congr (Gle.refl G) (w' := w') inf.size es (cellsOf w g) (fun b hb => ⟨hoth b (fun h => hgn (h ▸ hb)), rfl⟩) (T.RowsO.sub inf.size es _ _ hsub hr)
  have hR' := T.RowsO.restrict inf.size es xs (cellsOf w g) hsub hr hRc.1
  have hRn := T.RowsO.set (t := t) i j r hi hjl (T.IsO_of (P := P) (w := w') t y hy) hR'
  have hxl : xs.length = es.length * inf.size := hown.1
  have hset : (es.set i (r.set j t)).set i ((r.set j t).set j .any) = es.set i (r.set j .any) := by rw [List.set_set, List.set_set]
  have hil2 : (es.set i (r.set j t))[i]? = some (r.set j t) := by rw [List.getElem?_set]; simp [hil]
  have hjl2 : (r.set j t)[j]? = some t := by rw [List.getElem?_set]; simp [hrl, hjl]
  have p1 := T.reachR_set (w := w') inf.size es (cellsOf w g) i j r t0 (T.RowsO.len hr) hi hj
  have p2 := T.reachR_set (w := w') inf.size (es.set i (r.set j t)) (cellsOf w' g) i j (r.set j t) t (T.RowsO.len hRn) hil2 hjl2
  rw [h0, List.nil_append] at p1
  rw [T.reach_plain t y hy, List.nil_append, hset] at p2
  have hlen2 : ∀ q ∈ es.set i (r.set j .any), q.length = inf.size := fun q hq => by
    rcases List.mem_or_eq_of_mem_set hq with h | h
    · exact T.RowsO.len hr q h
    · rw [h, List.length_set]; exact hrl
  have hag : T.reachR w' (es.set i (r.set j .any)) (cellsOf w' g) = T.reachR w' (es.set i (r.set j .any)) (cellsOf w g) := by
    refine T.reachR_agree inf.size _ _ _ hlen2 (fun i' j' r' t' hi' hj' ht' => ?_)
    rw [hcel', hcel, List.getElem?_set, if_neg]
    intro he
    have hj'l : j' < inf.size := by rw [← hlen2 r' (List.mem_of_getElem? hi')]; exact (List.getElem?_eq_some_iff.1 hj').1
    obtain ⟨rfl, rfl⟩ := at_ne hj'l hjl he
    rw [List.getElem?_set, if_pos rfl, if_pos hil, Option.some.injEq] at hi'
    subst hi'
    rw [List.getElem?_set, if_pos rfl, if_pos (by rw [hrl]; exact hjl), Option.some.injEq] at hj'
    exact ht' hj'.symm
  rw [hag] at p2
  have hperm := p2.trans p1.symm
  rw [hRc.2] at hperm
  have hre : T.reach w' (.ow e (es.set i (r.set j t))) (.slice (some ⟨g, 0, none⟩) es.length (cap + 1)) = g :: T.reachR w' (es.set i (r.set j t)) (cellsOf w' g) := by rw [T.reach]
  rw [← hw'] at hre hRn hwg hcel' hperm ⊢
  refine Mem.rewrite hM hx (hkhas g (.inl rfl)) hGg _ (.dar (es.set i (r.set j t)) e) (by simp) (fun b hb => hkhas b ?_) ?_
  · replace hb : b ∈ T.reach (w.setRow g (cur.toList.set (i * inf.size + j) y).toArray) (.ow e (es.set i (r.set j t))) (.slice (some ⟨g, 0, none⟩) es.length (cap + 1)) := hb
    rw [hre] at hb
    exact (List.mem_cons.1 hb).imp id (fun h => hperm.mem_iff.1 h)
  · refine ⟨⟨_, inf, hinf, ⟨?_, .inr ⟨g, cap, _, by rw [List.length_set], hwg, by rw [List.length_set]; exact h4, h5, ?_, ?_⟩⟩, hRn, hn⟩, ?_⟩
    · rw [List.length_set, List.length_set]; exact hxl
    · rw [List.size_toArray, List.length_set]; simpa using h6
    · rw [List.length_set]
      show (cur.toList.set (i * inf.size + j) y).take (es.length * inf.size) = xs.set (i * inf.size + j) y
      rw [List.take_set, h7]
    · rw [hre]; exact List.nodup_cons.2 ⟨fun h => hgn (hperm.mem_iff.1 h), hperm.nodup_iff.2 hnd2⟩
theorem did_store_cell (hM : Mem P C m w G X) {t e : TypeId} {k i sz off : Nat} {t0 u : T} {es : List (List T)} {r : List T} (hm : m k = .dar es e) (hes : szOf P e = some sz) (hi : es[i]? = some r) (hj : r[off]? = some t0) (h0 : ∀ (w : World) x, T.reach w t0 x = [])
    (hsz : szOf P t = some 1) {ρ : Operand → Value} {o : Oper} {p x : Operand} (ho : o.op = .store t p x) (hp : V.Is G X (.re k i sz off) (ρ p)) (hv : V.Is G X (.t u) (ρ x)) :
    Did P C m G X ((execOp ρ o).run P w) .jk [(k, .dar (es.set i (r.set off u)) e)] := by
  rw [V.Is] at hp
  rw [V.Is] at hv
  obtain ⟨b, n, c, hX, hpx⟩ := hp
  have hob := hM.ob k _ hX
  rw [hm] at hob
  obtain ⟨⟨xs, inf, hinf, hown, hr, hn⟩, _⟩ := hob
  have hinfs : inf.size = sz := by simp [szOf, hinf] at hes; exact hes
  have hil : i < es.length := (List.getElem?_eq_some_iff.1 hi).1
  have hrl : r.length = sz := by rw [← hinfs]; exact T.RowsO.len hr r (List.mem_of_getElem? hi)
  have hol : off < sz := by rw [← hrl]; exact (List.getElem?_eq_some_iff.1 hj).1
  rcases own_cases hown with ⟨_, h00, _⟩ | ⟨g, cap, cur, h0, hg, _, h4, _, h6, _, _⟩
  · omega
  cases h0
  have hone := T.Is.one hv
  have hcells : (ρ x).cells = #[ρ x] := by
    cases hρ : ρ x <;> rw [hρ] at hone <;> first | rfl | (simp [Value.oneCell'] at hone)
  have hlt : i * sz + off < cur.toList.length := by
    have h1 : (i + 1) * sz ≤ es.length * sz := Nat.mul_le_mul_right _ (by omega)
    have h2 : es.length * sz ≤ (cap + 1) * sz := Nat.mul_le_mul_right _ h4
    rw [Nat.succ_mul] at h1
    rw [hinfs] at h6
    simp only [Array.length_toList]; omega
  have hrun := run_storeAt (P := P) (w := w) (x := ρ x) (b := b) (off := i * sz + off) (t := t) hsz (by rw [hcells]; rfl) (by rw [hcells]; intro z hz; simp at hz; subst hz; exact hone) hg (by simp at hlt; omega)
  have hput := hM.setCell hm hX hinf hi hj h0 hv hg
  rw [hinfs] at hput
  refine ⟨.skip, undef, _, G, X, by simp [execOp, ho, hpx, hrun]; rfl, .inr ⟨rfl, rfl⟩, Gle.refl G, Xle.refl X, ?_, trivial⟩
  rw [hcells]
  rw [show splice cur.toList (i * sz + off) (#[ρ x] : Array Value).toList = cur.toList.set (i * sz + off) (ρ x) from splice_one _ _ _ hlt]
  exact hput
end
end Go.Abs
end
section
set_option linter.unusedVariables false
set_option linter.unusedSimpArgs false
namespace Go.Abs
inductive RelC : List V → List T → Prop
  | nil : RelC [] []
  | t {x : T} {vs : List V} {fs : List T} : RelC vs fs → RelC (.t x :: vs) (x :: fs)
  | ar {k : Nat} {vs : List V} {fs : List T} : RelC vs fs → RelC (.ar k :: vs) (.any :: fs)
  | nl {e : TypeId} {vs : List V} {fs : List T} : RelC vs fs → RelC (.nl :: vs) (.sc (.nis e) :: fs)
section
variable {P : Program} {C : Cx} {m : Nat → Ob} {w : World} {G : Im} {X : Xm}
theorem RelC.cells (hX : ∀ k y, X k = some y → y.oneCell' = true) : ∀ {vs : List V} {fs : List T} {xs : List Value}, RelC vs fs → V.IsL G X vs xs → T.Cells G fs xs ∧ xs.length = fs.length
  | _, _, xs, .nil, h => by
    replace h : xs = [] := h
    subst h; exact ⟨trivial, rfl⟩
  | _, _, _, .t hr, ⟨y, ys, rfl, h1, h2⟩ => by
    obtain ⟨a, b⟩ := RelC.cells hX hr h2
    exact ⟨⟨⟨y, rfl, h1⟩, a⟩, by simp [b]⟩
  | _, _, _, .ar hr, ⟨y, ys, rfl, h1, h2⟩ => by
    obtain ⟨a, b⟩ := RelC.cells hX hr h2
    exact ⟨⟨⟨y, rfl, hX _ _ h1⟩, a⟩, by simp [b]⟩
  | _, _, _, .nl hr, ⟨y, ys, rfl, h1, h2⟩ => by
    obtain ⟨a, b⟩ := RelC.cells hX hr h2
    exact ⟨⟨⟨y, rfl, by rw [V.Is] at h1; rw [T.Is, h1]; rfl⟩, a⟩, by simp [b]⟩
theorem RelC.one (hX : ∀ k y, X k = some y → y.oneCell' = true) : ∀ {vs : List V} {fs : List T} {xs : List Value}, RelC vs fs → V.IsL G X vs xs → ∀ c ∈ xs, c.oneCell' = true
  | _, _, xs, .nil, h, c, hc => by
    replace h : xs = [] := h
    subst h; cases hc
  | _, _, _, .t hr, ⟨y, ys, rfl, h1, h2⟩, c, hc => by
    rcases List.mem_cons.1 hc with rfl | hc
    · exact T.Is.one h1
    · exact RelC.one hX hr h2 c hc
  | _, _, _, .ar hr, ⟨y, ys, rfl, h1, h2⟩, c, hc => by
    rcases List.mem_cons.1 hc with rfl | hc
    · exact hX _ _ h1
    · exact RelC.one hX hr h2 c hc
  | _, _, _, .nl hr, ⟨y, ys, rfl, h1, h2⟩, c, hc => by
    rcases List.mem_cons.1 hc with rfl | hc
    · rw [V.Is] at h1; rw [h1]; rfl
    · exact RelC.one hX hr h2 c hc
def HolesAt (vs : List V) (i : Nat) : List (Nat × Nat × Nat) → Prop
  | [] => True
  | h :: hs => (h.1 = i ∧ vs[h.2.1]? = some (.ar h.2.2)) ∧ HolesAt vs i hs
theorem HolesAt.get {vs : List V} {i : Nat} : ∀ {hs : List (Nat × Nat × Nat)}, HolesAt vs i hs → ∀ h ∈ hs, h.1 = i ∧ vs[h.2.1]? = some (.ar h.2.2)
  | x :: hs, hh, h, hm => by
    rcases List.mem_cons.1 hm with rfl | hm
    · exact hh.1
    · exact HolesAt.get hh.2 h hm
theorem did_store_row (hM : Mem P C m w G X) {t e : TypeId} {k i sz : Nat} {es : List (List T)} {vs : List V} {fs : List T} {hs : List (Nat × Nat × Nat)} (hm : m k = .dar es e) (hes : szOf P e = some sz) (hi : i < es.length) (hsz : szOf P t = some sz) (hr : RelC vs fs) (hl : fs.length = sz) (hh : HolesAt vs i hs)
    {ρ : Operand → Value} {o : Oper} {p x : Operand} (ho : o.op = .store t p x) (hp : V.Is G X (.re k i sz 0) (ρ p)) (hv : V.Is G X (.ag vs) (ρ x)) :
    Did P C m G X ((execOp ρ o).run P w) .jk [(k, .dah (es.set i fs) e hs)] := by
  rw [V.Is] at hp
  rw [V.Is] at hv
  obtain ⟨b, n, c, hX, hpx⟩ := hp
  rw [Nat.add_zero] at hpx
  obtain ⟨xs, hxx, hxs⟩ := hv
  have hob := hM.ob k _ hX
  rw [hm] at hob
  obtain ⟨⟨ys, inf, hinf, hown, hrr, hn⟩, _⟩ := hob
  have hinfs : inf.size = sz := by simp [szOf, hinf] at hes; exact hes
  obtain ⟨hc1, hc2⟩ := hr.cells hM.cell hxs
  rcases own_cases hown with ⟨_, h00, _⟩ | ⟨g, cap, cur, h0, hg, _, h4, _, h6, _, _⟩
  · omega
  cases h0
  have hcells : (ρ x).cells = xs := by rw [hxx]; rfl
  have h1 : (i + 1) * sz ≤ es.length * sz := Nat.mul_le_mul_right _ (by omega)
  have h2 : es.length * sz ≤ (cap + 1) * sz := Nat.mul_le_mul_right _ h4
  rw [Nat.succ_mul] at h1
  rw [hinfs] at h6
  have hxl : xs.toList.length = sz := by rw [hc2, hl]
  have hrun := run_storeAt (P := P) (w := w) (x := ρ x) (b := b) (off := i * sz) (t := t) hsz (by rw [hcells]; simpa using hxl) (by rw [hcells]; exact hr.one hM.cell hxs) hg (by omega)
  have hput := hM.storeRow (i := i) (fs := fs) (vs := xs.toList) (hs := hs) hm hX hinf hi (by rw [hinfs]; exact hl) (by rw [hinfs]; exact hxl) hc1 (fun h hmem => by
    obtain ⟨q1, q2⟩ := hh.get h hmem
    obtain ⟨y, hy, hyX⟩ := hxs.get _ _ q2
    exact ⟨q1, y, hyX, hy⟩) hg
  rw [hinfs] at hput
  refine ⟨.skip, undef, _, G, X, by simp [execOp, ho, hpx, hrun]; rfl, .inr ⟨rfl, rfl⟩, Gle.refl G, Xle.refl X, ?_, trivial⟩
  rw [hcells]
  exact hput
theorem Mem.toDah (hM : Mem P C m w G X) {k : Nat} {es : List (List T)} {e : TypeId} {g n c : Nat} {inf : TypeInfo} (hm : m k = .dar es e) (hx : X k = some (.slice (some ⟨g, 0, none⟩) n (c + 1))) (hinf : P.info? e = some inf) {hs : List (Nat × Nat × Nat)}
    (hh : ∀ h ∈ hs, ∃ y, X h.2.2 = some y ∧ (cellsOf w g)[h.1 * inf.size + h.2.1]? = some y) : Mem P C (upd m k (.dah es e hs)) w G X :=
  Mem.less2 hM k _ (fun x' hx' hok => by
    rw [hx] at hx'; cases hx'
    rw [hm] at hok ⊢
    exact ⟨⟨hok.1, hok.2, fun h hmem => by
      obtain ⟨y, h1, h2⟩ := hh h hmem
      exact ⟨_, _, _, inf, y, rfl, hinf, h1, h2⟩⟩, fun b hb => hb⟩) ⟨fun h => by simp at h, fun h => by rw [hm] at h; cases h⟩
theorem Mem.toDarN (hM : Mem P C m w G X) {k : Nat} {es : List (List T)} {e : TypeId} (hm : m k = .arr es e true) (hn : (es.all fun r => r.all (T.nisB P)) = true) : Mem P C (upd m k (.dar (es.map (·.map T.nisO)) e)) w G X := by
  refine Mem.less2 hM k _ (fun x hx hok => ?_) ⟨fun h => by simp at h, fun h => by rw [hm] at h; cases h⟩
  rw [hm] at hok ⊢
  obtain ⟨xs, i, hi, hown, hr, hg⟩ := hok
  have hO := fun l (h : T.Rows G i.size es l) => T.RowsO_nis (P := P) (w := w) i.size es l hn h
  have hre : T.reach w (.ow e (es.map (·.map T.nisO))) x = blkOf x := by
    rcases own_cases hown with ⟨⟨A, rfl⟩, _⟩ | ⟨g, cap, cur, rfl, hg2, hlt, h4, h5, h6, h7, hsub⟩
    · rw [reach_capless]; cases A <;> rfl
    · rw [T.reach, (hO _ (T.Rows.mono (Gle.refl G) i.size es _ _ hsub hr)).2]; rfl
  refine ⟨⟨⟨xs, i, hi, by rw [List.length_map]; exact hown, (hO xs hr).1, fun a n c hx => by simpa using hg a n c hx⟩, ?_⟩, fun b hb => ?_⟩
  · rw [hre]; cases x <;> first | exact List.nodup_nil | (rename_i a _ c; cases a <;> cases c <;> simp [blkOf])
  · replace hb : b ∈ T.reach w (.ow e (es.map (·.map T.nisO))) x := by
      cases x <;> first | exact hb | (rename_i a _ _; cases a <;> exact hb)
    rw [hre] at hb
    rcases own_cases hown with ⟨⟨A, rfl⟩, _⟩ | ⟨g, cap, cur, rfl, _⟩
    · cases A <;> cases hb
    · exact List.mem_singleton.1 hb
inductive RelZ : List V → List T → Prop
  | nil : RelZ [] []
  | t {x : T} {vs : List V} {fs : List T} : RelZ vs fs → RelZ (.t x :: vs) (x :: fs)
  | nl {e : TypeId} {vs : List V} {fs : List T} : RelZ vs fs → RelZ (.nl :: vs) (.sc (.nis e) :: fs)
theorem RelZ.up : ∀ {vs : List V} {fs : List T} {xs : List Value}, RelZ vs fs → V.IsL G X vs xs → V.IsL G X (fs.map .t) xs
  | _, _, _, .nil, h => h
  | _, _, _, .t hr, ⟨y, ys, hx, h1, h2⟩ => ⟨y, ys, hx, h1, RelZ.up hr h2⟩
  | _, _, _, .nl hr, ⟨y, ys, hx, h1, h2⟩ => ⟨y, ys, hx, by rw [V.Is] at h1; rw [V.Is, T.Is, h1]; rfl, RelZ.up hr h2⟩
theorem toTs_tt : ∀ (m : Nat → Ob) (fs : List T), toTs m (fs.map .t) = some fs
  | m, [] => rfl
  | m, f :: fs => by rw [List.map_cons, toTs, toTs_tt m fs]; rfl
theorem fz_tt : ∀ fs : List T, (fs.map V.t).flatMap fz = []
  | [] => rfl
  | f :: fs => by rw [List.map_cons, List.flatMap_cons, fz_tt fs]; rfl
theorem did_makeN (hM : Mem P C m w G X) {id : Nat} (hid : m id = .no) {t e : TypeId} {by' sz : Nat} {zs : List V} {fs : List T} (ht : apOf P t = some (e, by', sz)) (hz : zcells P e = some zs) (hrel : RelZ zs fs) (hfl : fs.length = sz) (hnb : fs.all (T.nisB P) = true) {k k' : IntKind} {n : Nat} (hn : n * by' ≤ 140737488355328)
    {ρ : Operand → Value} {o : Oper} {x y : Operand} (ho : o.op = .makeSlice t x y) (hx : ρ x = .int k n) (hy : ρ y = .int k' n) :
    Did P C m G X ((execOp ρ o).run P w) (.ar id) [(id, .dar ((List.replicate n fs).map (·.map T.nisO)) e)] := by
  obtain ⟨i, z, hu, hi, hzz, hzs, hby, hsz, hb0, hs0⟩ := apOf_spec ht
  have hzV : V.IsL G X (fs.map .t) z.cells.toList := by
    refine hrel.up ?_
    unfold zcells at hz
    rw [hi] at hz; simp [hzz] at hz
    exact zSs_is G X hz
  obtain ⟨hrows, hsize⟩ := zero_rows hzV (fun m' => toTs_tt m' fs) hM (fz_tt fs) (sz := sz) (by rw [← hsz]; exact hzs) hs0 n
  have hnb2 : n ≤ n * by' := Nat.le_mul_of_pos_right _ hb0
  have hmax : (List.replicate n fs).length ≤ maxLen := by simp only [List.length_replicate, maxLen]; omega
  subst hsz
  obtain ⟨hM2, hX2⟩ := hM.newArr hid _ e i hi _ hrows (by simp) hmax
  have hM3 := hM2.toDarN (k := id) (upd_same _ _ _) (by
    rw [List.all_eq_true]; intro r hr; rw [List.eq_of_mem_replicate hr]; exact hnb)
  rw [upd_upd] at hM3
  refine ⟨.value (.slice (some ⟨w.heap.size, 0, none⟩) n n), _, _, G, _, ?_, .inl rfl, Gle.refl G, hX2, hM3, by rw [V.Is]; simp [upd_same]⟩
  have hw : IntKind.i64.wrap (n : Int) = n := IntWalk.i64_in _ (by omega)
  have hneg : ¬ ((n : Int) < 0) := by omega
  subst hby
  have hb2 : ¬ ((281474976710656 : Int) < (i.bytes : Int) * (n : Int)) := by
    have : ((i.bytes * n : Nat) : Int) ≤ 140737488355328 := by rw [Nat.mul_comm]; omega
    rw [Int.natCast_mul] at this; omega
  by_cases h0 : n * i.size = 0
  · have hn0 : n = 0 := by rcases Nat.mul_eq_zero.1 h0 with h | h; exact h; omega
    subst hn0
    have hw0 : IntKind.i64.wrap 0 = 0 := by simpa using hw
    simp [execOp, ho, hx, hy, Instr.makeSlice, run_underlying hu, asInt, asIntOf, sizeOf, typeInfo, zeroValue, hi, hzz, hw0, newRow, Array.range_zero']
  · simp [execOp, ho, hx, hy, Instr.makeSlice, run_underlying hu, asInt, asIntOf, sizeOf, typeInfo, zeroValue, hi, hzz, hw, hb2, h0, hneg, newRow]
theorem did_build_row (hM : Mem P C m w G X) {id : Nat} (hid : m id = .no) {t e : TypeId} {by' sz : Nat} {vs : List V} {fs : List T} {hs : List (Nat × Nat × Nat)} (ht : apOf P t = some (e, by', sz)) (hsm : sz ≤ 16777216) (hr : RelC vs fs) (hl : fs.length = sz) (hh : HolesAt vs 0 hs)
    {ρ : Operand → Value} {o : Oper} {x : Operand} (ho : o.op = .buildSlice t 1 #[(0, x)]) (hv : V.Is G X (.ag vs) (ρ x)) :
    Did P C m G X ((execOp ρ o).run P w) (.ar id) [(id, .dah [fs] e hs)] := by
  obtain ⟨i, z, hu, hi, hzz, hzs, hby, hsz, hb0, hs0⟩ := apOf_spec ht
  rw [V.Is] at hv
  obtain ⟨xs, hxx, hxs⟩ := hv
  obtain ⟨hc1, hc2⟩ := hr.cells hM.cell hxs
  have hxl : xs.toList.length = sz := by rw [hc2, hl]
  subst hsz
  have hrows : T.Rows G i.size [fs] xs.toList := ⟨hl, hc1, trivial⟩
  obtain ⟨hM2, hX2⟩ := hM.newArr hid xs e i hi [fs] hrows (by simpa using hxl) (by simp [maxLen])
  have hM3 := hM2.toDar (k := id) (upd_same _ _ _)
  have hM4 := hM3.toDah (k := id) (g := w.heap.size) (c := 0) (hs := hs) (upd_same _ _ _) (by rw [upd_same]; rfl) hi (fun h hmem => by
    obtain ⟨q1, q2⟩ := hh.get h hmem
    obtain ⟨y, hy, hyX⟩ := hxs.get _ _ q2
    refine ⟨y, hX2 _ _ hyX, ?_⟩
    rw [q1, Nat.zero_mul, Nat.zero_add, cellsOf_eq (heap_alloc_new w _)]
    exact hy)
  rw [upd_upd, upd_upd] at hM4
  refine ⟨.value (.slice (some ⟨w.heap.size, 0, none⟩) 1 1), _, _, G, _, ?_, .inl rfl, Gle.refl G, hX2, hM4, by rw [V.Is]; exact upd_same _ _ _⟩
  have hfill : ∀ c0 : Array Value, c0.size = i.size → Instr.fill (fun x => some (x * i.size, i.size)) c0 [(0, ρ x)] = some xs := by
    intro c0 h0
    have hset := set_fold [] xs.toList 0 0 c0 (by simp at hxl ⊢; omega)
    have hxx2 : (ρ x).cells = xs := by rw [hxx]; rfl
    simp only [Instr.fill, hxx2, Nat.zero_mul]
    rw [if_neg (by simp at hxl ⊢; omega)]
    congr 1
    apply Array.ext'
    have hfold : (xs.zipIdx.foldl (fun cs (p : Value × Nat) => cs.setIfInBounds (0 + p.2) p.1) c0).toList = splice c0.toList 0 xs.toList := by
      rw [← Array.foldl_toList, Array.toList_zipIdx]; simpa using hset
    rw [hfold, splice_zero, List.drop_of_length_le (by simp at hxl ⊢; omega), List.append_nil]
  have hbig : ¬ (1 * i.size > 2 ^ 24) := by omega
  have h0 : ¬ (1 * i.size = 0) := by omega
  have h1 := hfill ((Array.range (1 * i.size)).map (fun x => z.cells[x % z.cells.size]!)) (by simp)
  simp only [Nat.one_mul] at h1 hbig h0
  simp [execOp, ho, Instr.buildSlice, run_underlying hu, sizeOf, typeInfo, zeroValue, hi, hzz, hbig, h0, h1, newRow]
end
end Go.Abs
end
section
set_option linter.unusedVariables false
set_option linter.unusedSimpArgs false
namespace Go.Abs
def T.noOw : T → Bool
  | .ow _ _ => false
  | _ => true
section
variable {P : Program} {C : Cx} {m : Nat → Ob} {w : World} {G : Im} {X : Xm}
theorem reach_noOw {w : World} : ∀ (t : T) (x : Value), t.noOw = true → T.reach w t x = []
  | .sc s, x, _ => by cases x <;> rfl
  | .sl es, x, _ => by cases x <;> rfl
  | .any, x, _ => by cases x <;> rfl
  | .ow _ _, x, h => by cases h
theorem reachC_noOw {w : World} : ∀ (ts : List T) (l : List Value), ts.all T.noOw = true → T.reachC w ts l = []
  | [], l, _ => by rw [T.reachC]
  | t :: ts, l, h => by
    rw [List.all_cons, Bool.and_eq_true] at h
    rw [T.reachC, reach_noOw t _ h.1, reachC_noOw ts _ h.2]; rfl
theorem reachR_noOw {w : World} : ∀ (es : List (List T)) (l : List Value), (es.all fun r => r.all T.noOw) = true → T.reachR w es l = []
  | [], l, _ => by rw [T.reachR]
  | r :: es, l, h => by
    rw [List.all_cons, Bool.and_eq_true] at h
    rw [T.reachR, reachC_noOw r _ h.1, reachR_noOw es _ h.2]; rfl
theorem RowsO_one {sz : Nat} {es : List (List T)} {l : List Value} (h : T.RowsO P G w sz es l) (hl : l.length = es.length * sz) : ∀ u ∈ l, u.oneCell' = true := by
  intro u hu
  obtain ⟨p, hp, hpu⟩ := List.getElem_of_mem hu
  have hsz : 0 < sz := by
    rcases Nat.eq_zero_or_pos sz with h0 | h0
    · rw [h0, Nat.mul_zero] at hl; omega
    · exact h0
  have hi : p / sz < es.length := by rw [Nat.div_lt_iff_lt_mul hsz]; omega
  have hj : p % sz < sz := Nat.mod_lt _ hsz
  have hr := T.RowsO.len h es[p / sz] (List.getElem_mem hi)
  obtain ⟨x, hx, hix⟩ := T.RowsO.get h (p / sz) (p % sz) es[p / sz] (es[p / sz][p % sz]'(by omega)) (List.getElem?_eq_getElem hi) (List.getElem?_eq_getElem (by omega))
  rw [show p / sz * sz + p % sz = p by rw [Nat.mul_comm]; exact Nat.div_add_mod p sz] at hx
  rw [List.getElem?_eq_getElem hp] at hx
  cases hx
  rw [← hpu]; exact T.IsO.one _ _ hix
theorem Mem.appendDarX (hM : Mem P C m w G X) {k id : Nat} {es fs : List (List T)} {e : TypeId} {x : Value} (hm : m k = .dar es e) (hx : X k = some x) (hid : m id = .no)
    (t ty : TypeId) (i : TypeInfo) (z : Value) (ht : P.underlying t = some (.slice e)) (hi : P.info? e = some i) (hz : i.zero = some z) (hzs : z.cells.size = i.size)
    (B : Option Addr) (c : Nat) (news : List Value) (hl : news.length = fs.length * i.size) (hr2 : T.RowsO P G w i.size fs news) (hre : T.reachR w fs news = [])
    (hnews : fs.length = 0 ∨ ∃ a, B = some a ∧ ∀ j u, news[j]? = some u → w.cell? (a.add j) = some u) (h1 : ∀ u ∈ news, u.oneCell' = true) (hbytes : (es.length + fs.length) * i.bytes ≤ 140737488355328) (h63 : es.length + fs.length ≤ maxLen) :
    ∃ v' w', (Builtin.append_ #[t, t] ty #[x, .slice B fs.length c]).run P w = .ok v' w' ∧ Xle X (upd X id (some v')) ∧
      (fs = [] ∨ ∃ g n' c', v' = .slice (some ⟨g, 0, none⟩) n' (c' + 1) ∧ ∀ (j : Nat) u, news[j]? = some u → (cellsOf w' g)[es.length * i.size + j]? = some u) ∧
      Mem P C (upd (upd m k .dead) id (.dar (es ++ fs) e)) w' G (upd X id (some v')) := by
  have hXid : X id = none := (hM.free id).2 hid
  have hkid : k ≠ id := by rintro rfl; rw [hx] at hXid; cases hXid
  have ho := hM.ob k x hx
  rw [hm] at ho
  obtain ⟨⟨xs, i', hi', hown, hr, hn⟩, hnd⟩ := ho
  rw [hi] at hi'; cases hi'
  obtain ⟨v', w', hrun, hown', hcases⟩ := run_append_casesZ (P := P) t ty e i z ht hi hz hzs x es.length xs hown B c fs.length news hl hnews h1 hbytes h63
  have hxl : xs.length = es.length * i.size := hown.1
  have hlen := T.RowsO.len hr
  -- what x reaches
  obtain ⟨N, hNr, hNk, hNn, hNo⟩ : ∃ N : List Nat, (∀ l, (∀ p, p < es.length * i.size → l[p]? = xs[p]?) → T.reachR w es l = N) ∧ (∀ b ∈ N, (m k).has w x b) ∧ N.Nodup ∧
      (∀ g n c, x = .slice (some ⟨g, 0, none⟩) n (c + 1) → g ∉ N ∧ (m k).has w x g) := by
    refine ⟨T.reachR w es xs, fun l h => T.reachR_pre i.size hlen h, ?_⟩
    rcases own_cases hown with ⟨⟨A, rfl⟩, h0, _⟩ | ⟨g, cap, cur, rfl, hg, _, _, _, _, _, hsub⟩
    · have : es = [] := List.eq_nil_of_length_eq_zero h0
      subst this
      exact ⟨fun b hb => (by cases hb), List.nodup_nil, fun g n c h => (by cases h)⟩
    · have hsame : T.reachR w es (cellsOf w g) = T.reachR w es xs := T.reachR_pre i.size hlen (fun p hp => by
        have hp2 : p < xs.length := by omega
        rw [List.getElem?_eq_getElem hp2]; exact hsub _ _ (List.getElem?_eq_getElem hp2))
      rw [T.reach, hsame] at hnd
      obtain ⟨a1, a2⟩ := List.nodup_cons.1 hnd
      refine ⟨fun b hb => ?_, a2, fun g1 n1 c1 h => ?_⟩
      · rw [hm]; show b ∈ T.reach w (.ow e es) _
        rw [T.reach, hsame]; exact List.mem_cons_of_mem _ hb
      · cases h
        refine ⟨a1, ?_⟩
        rw [hm]; show g ∈ T.reach w (.ow e es) _
        rw [T.reach]; simp
  have hNlt : ∀ b ∈ N, b < w.heap.size := fun b hb => hM.blk_lt hx (hNk b hb)
  -- the block of the answer
  have key : ((∃ A, v' = .slice A 0 0) ∧ es = [] ∧ fs = []) ∨ ∃ g n' c' rest, v' = .slice (some ⟨g, 0, none⟩) n' (c' + 1) ∧ cellsOf w' g = (xs ++ news) ++ rest ∧ G g = none ∧ g ∉ N ∧ ((m k).has w x g ∨ g = w.heap.size) := by
    rcases own_cases hown' with ⟨hv, h0, _⟩ | ⟨g, cap, cur, rfl, hg, _, _, _, _, h7, _⟩
    · exact .inl ⟨hv, List.eq_nil_of_length_eq_zero (by omega), List.eq_nil_of_length_eq_zero (by omega)⟩
    · refine .inr ⟨g, _, cap, cur.toList.drop ((es.length + fs.length) * i.size), rfl, by rw [cellsOf_eq hg, ← h7, List.take_append_drop], ?_⟩
      rcases hcases with ⟨h1, _, _⟩ | ⟨g1, cap1, cur1, cur', rest, h1, h2, _⟩ | ⟨cap', cur', rest, h1, _, _⟩
      · exact ⟨hn _ _ _ h1.symm, (hNo _ _ _ h1.symm).1, .inl (hNo _ _ _ h1.symm).2⟩
      · cases h2
        exact ⟨hn _ _ _ h1, (hNo _ _ _ h1).1, .inl (hNo _ _ _ h1).2⟩
      · cases h1
        exact ⟨hM.gok.none (Nat.le_refl _), fun h => absurd (hNlt _ h) (by omega), .inr rfl⟩
  have hw : ∀ b, b < w.heap.size → (∀ g n c, x = .slice (some ⟨g, 0, none⟩) n (c + 1) → b ≠ g) → w'.heap[b]? = w.heap[b]? := by
    intro b hb hbg
    rcases hcases with ⟨_, rfl, _⟩ | ⟨g, cap, cur, cur', rest, hxg, _, hg, rfl, _⟩ | ⟨cap', cur', rest, _, rfl, _⟩
    · rfl
    · exact setRow_other w g b _ (hbg _ _ _ hxg)
    · exact alloc_old (w := w.drew) hb
  have hgl : Gok G w' ∧ w'.os = w.os ∧ w'.tape = w.tape ∧ w'.output = w.output ∧ w.heap.size ≤ w'.heap.size := by
    rcases hcases with ⟨_, rfl, _⟩ | ⟨g, cap, cur, cur', rest, rfl, _, hg, rfl, _⟩ | ⟨cap', cur', rest, _, rfl, _⟩
    · exact ⟨hM.gok, rfl, rfl, rfl, Nat.le_refl _⟩
    · exact ⟨setRow_gok hM.gok (hn _ _ _ rfl) _, rfl, rfl, rfl, by simp⟩
    · exact ⟨Gok.alloc (w := w.drew) hM.gok _, rfl, rfl, rfl, by simp⟩
  have hone : v'.oneCell' = true := by rcases key with ⟨⟨A, rfl⟩, _⟩ | ⟨g, n', c', rest, rfl, _⟩ <;> rfl
  have hwk : ∀ b, b < w.heap.size → ¬ (m k).has w x b → w'.heap[b]? = w.heap[b]? := fun b hb hnb => hw b hb (fun g n c hxg h => hnb (h ▸ (hNo g n c hxg).2))
  have hwN : ∀ b ∈ N, w'.heap[b]? = w.heap[b]? := fun b hb => hw b (hNlt b hb) (fun g n c hxg h => (hNo g n c hxg).1 (h ▸ hb))
  -- the rows in the new world
  have hes : T.RowsO P G w' i.size es xs ∧ T.reachR w' es xs = N := by
    have hN : T.reachR w es xs = N := hNr xs (fun _ _ => rfl)
    have := T.RowsO.congr (Gle.refl G) (w' := w') i.size es xs (fun b hb => ⟨hwN b (by rw [← hN]; exact hb), rfl⟩) hr
    exact ⟨this.1, this.2.trans hN⟩
  have hfs := T.RowsO.congr (Gle.refl G) (w' := w') i.size fs news (fun b hb => by rw [hre] at hb; cases hb) hr2
  rw [hre] at hfs
  have hRn := T.RowsO.append hxl hes.1 hfs.1
  have hreach : ∀ g rest, cellsOf w' g = (xs ++ news) ++ rest → T.reachR w' (es ++ fs) (cellsOf w' g) = N := by
    intro g rest hc
    rw [T.reachR_append i.size es fs _ hlen]
    have a1 : T.reachR w' es (cellsOf w' g) = T.reachR w' es xs := T.reachR_pre i.size hlen (fun p hp => by
      rw [hc, List.append_assoc, List.getElem?_append_left (by omega)])
    have a2 : T.reachR w' fs ((cellsOf w' g).drop (es.length * i.size)) = T.reachR w' fs news := T.reachR_pre i.size (T.RowsO.len hr2) (fun p hp => by
      rw [hc, List.append_assoc, ← hxl, List.drop_left, List.getElem?_append_left (by omega)])
    rw [a1, a2, hes.2, hfs.2, List.append_nil]
  have hmd : upd (upd m k Ob.dead) id (.dar (es ++ fs) e) id = .dar (es ++ fs) e := upd_same _ _ _
  have hmk : upd (upd m k Ob.dead) id (.dar (es ++ fs) e) k = .dead := by rw [upd_ne _ _ _ hkid, upd_same]
  have hmo : ∀ k1, k1 ≠ id → k1 ≠ k → upd (upd m k Ob.dead) id (.dar (es ++ fs) e) k1 = m k1 := fun k1 a b => by rw [upd_ne _ _ _ a, upd_ne _ _ _ b]
  have hnew : ∀ b, b ∈ T.reach w' (.ow e (es ++ fs)) v' → (m k).has w x b ∨ b = w.heap.size := by
    intro b hb
    rcases key with ⟨⟨A, rfl⟩, _⟩ | ⟨g, n', c', rest, rfl, hc, _, _, hg⟩
    · rw [reach_capless] at hb; cases hb
    · rw [T.reach, hreach g rest hc] at hb
      rcases List.mem_cons.1 hb with rfl | hb
      · exact hg
      · exact .inl (hNk b hb)
  have hh : ∀ k1 y b, k1 ≠ k → X k1 = some y → (m k1).has w' y b → (m k1).has w y b := fun k1 y b hk hy hb =>
    (Ob.has_congr (fun b2 hb2 => hwk b2 (hM.blk_lt hy hb2) (fun hb3 => hk (hM.apart k1 k y x b2 hy hx hb2 hb3))) (hM.ob k1 y hy) b).1 hb
  have hsrc : ∀ k1 y b, upd X id (some v') k1 = some y → (upd (upd m k Ob.dead) id (.dar (es ++ fs) e) k1).has w' y b → (k1 = id ∧ ((m k).has w x b ∨ b = w.heap.size)) ∨ (k1 ≠ id ∧ k1 ≠ k ∧ X k1 = some y ∧ (m k1).has w y b) := by
    intro k1 y b hy hb
    by_cases e1 : k1 = id
    · subst e1; rw [upd_same] at hy; cases hy; rw [hmd] at hb
      exact .inl ⟨rfl, hnew b hb⟩
    · rw [upd_ne _ _ _ e1] at hy
      by_cases e2 : k1 = k
      · subst e2; rw [hmk] at hb; exact (Ob.has_dead hb).elim
      · rw [hmo k1 e1 e2] at hb
        exact .inr ⟨e1, e2, hy, hh k1 y b e2 hy hb⟩
  have hex : fs = [] ∨ ∃ g n' c', v' = .slice (some ⟨g, 0, none⟩) n' (c' + 1) ∧ ∀ (j : Nat) u, news[j]? = some u → (cellsOf w' g)[es.length * i.size + j]? = some u := by
    rcases key with ⟨_, _, h⟩ | ⟨g, n', c', rest, hv, hc, _⟩
    · exact .inl h
    · refine .inr ⟨g, n', c', hv, fun j u hj => ?_⟩
      have hjl := (List.getElem?_eq_some_iff.1 hj).1
      rw [hc, List.append_assoc, ← hxl, List.getElem?_append_right (by omega), Nat.add_sub_cancel_left, List.getElem?_append_left hjl]
      exact hj
  refine ⟨v', w', hrun, Xle_upd hXid, hex, hM.gle, hM.gold, hgl.1, ⟨hgl.2.1.trans hM.keeps.os, hgl.2.2.1.trans hM.keeps.tape, hgl.2.2.2.1.trans hM.keeps.output, Nat.le_trans hM.keeps.size hgl.2.2.2.2, fun b hb hnb => ?_⟩, ?_, ?_, ?_, ?_, ?_, fun k1 y hk => Xle_upd hXid k1 y (hM.old k1 y hk)⟩
  · rw [hwk b (by have := hM.keeps.size; omega) (fun hb' => ?_)]
    · exact hM.keeps.block b hb hnb
    · rcases hM.mine k x b hx hb' with h3 | h3
      · exact hnb h3
      · omega
  · intro k1 y hy
    by_cases e1 : k1 = id
    · subst e1; rw [upd_same] at hy; cases hy
      rw [hmd]
      refine ⟨⟨xs ++ news, i, hi, by rw [List.length_append]; exact hown', hRn, fun a n1 c1 ha => ?_⟩, ?_⟩
      · rcases key with ⟨hA, _⟩ | ⟨g, n', c', rest, rfl, _, hg, _⟩
        · obtain ⟨A, rfl⟩ := hA; simp at ha
        · cases ha; exact hg
      · rcases key with ⟨⟨A, rfl⟩, _⟩ | ⟨g, n', c', rest, rfl, hc, _, hgN, _⟩
        · rw [reach_capless]; exact List.nodup_nil
        · rw [T.reach, hreach g rest hc]; exact List.nodup_cons.2 ⟨hgN, hNn⟩
    · rw [upd_ne _ _ _ e1] at hy
      by_cases e2 : k1 = k
      · subst e2; rw [hmk]; trivial
      · rw [hmo k1 e1 e2]
        exact (hM.ob k1 y hy).mono (Gle.refl G) (Xle_upd hXid) (fun _ _ => rfl) (fun b hb => hwk b (hM.blk_lt hy hb) (fun hb' => e2 (hM.apart k1 k y x b hy hx hb hb')))
  · intro k1
    by_cases e1 : k1 = id
    · subst e1; rw [hmd, upd_same]; simp
    · rw [upd_ne _ _ _ e1]
      by_cases e2 : k1 = k
      · subst e2; rw [hmk, hx]; simp
      · rw [hmo k1 e1 e2]; exact hM.free k1
  · intro k1 k2 y1 y2 b h1 h2 hb1 hb2
    rcases hsrc k1 y1 b h1 hb1 with ⟨rfl, q1⟩ | ⟨a1, a2, q1, q2⟩ <;> rcases hsrc k2 y2 b h2 hb2 with ⟨e2, p1⟩ | ⟨b1, b2, p1, p2⟩
    · exact e2.symm
    · rcases q1 with q1 | rfl
      · exact absurd (hM.apart k k2 _ _ b hx p1 q1 p2).symm b2
      · exact absurd (hM.blk_lt p1 p2) (by omega)
    · rcases p1 with p1 | rfl
      · exact absurd (hM.apart k k1 _ _ b hx q1 p1 q2).symm a2
      · exact absurd (hM.blk_lt q1 q2) (by omega)
    · exact hM.apart _ _ _ _ b q1 p1 q2 p2
  · intro k1 y b hy hb
    rcases hsrc k1 y b hy hb with ⟨_, q | rfl⟩ | ⟨_, _, q1, q2⟩
    · exact hM.mine _ _ _ hx q
    · exact .inr hM.keeps.size
    · exact hM.mine _ _ _ q1 q2
  · intro k1 y hy
    by_cases e1 : k1 = id
    · subst e1; rw [upd_same] at hy; cases hy; exact hone
    · rw [upd_ne _ _ _ e1] at hy; exact hM.cell _ _ hy
theorem did_append_dah (hM : Mem P C m w G X) {id k q : Nat} (hid : m id = .no) {t e : TypeId} {by' sz : Nat} (ht : apOf P t = some (e, by', sz)) {es fl : List (List T)} {hs : List (Nat × Nat × Nat)}
    (hm : m k = .dar es e) (hq : m q = .dah fl e hs) (hne : fl ≠ []) (hno : (fl.all fun r => r.all T.noOw) = true) (hb : (es.length + fl.length) * by' ≤ 140737488355328) (hlt : ∀ h ∈ hs, h.1 < fl.length ∧ h.2.1 < sz) {ρ : Operand → Value} {o : Oper} {x y : Operand}
    (ho : o.op = .call { callee := .builtin .append, args := #[x, y], argTypes := #[t, t] }) (hx : V.Is G X (.ar k) (ρ x)) (hy : V.Is G X (.ar q) (ρ y)) :
    Did P C m G X ((execOp ρ o).run P w) (.ar id) [(k, .dead), (q, .dead), (id, .dah (es ++ fl) e (hs.map fun h => (es.length + h.1, h.2)))] := by
  obtain ⟨i, z, hu, hi, hz, hzs, hby, hsz, hb0, hs0⟩ := apOf_spec ht
  rw [V.Is] at hx hy
  have h63 : es.length + fl.length ≤ maxLen := by
    have : es.length + fl.length ≤ (es.length + fl.length) * by' := Nat.le_mul_of_pos_right _ hb0
    simp only [maxLen]; omega
  have hob := hM.ob q _ hy
  rw [hq] at hob
  obtain ⟨⟨ys, inf, hinf, hown, hrr, hn⟩, hnd, hholes⟩ := hob
  rw [hi] at hinf; cases hinf
  have hfl : 0 < fl.length := List.length_pos_iff.2 hne
  rcases own_cases hown with ⟨_, h00, _⟩ | ⟨g, cap, cur, hyv, hg, hgl, h4, h5, h6, h7, hsub⟩
  · omega
  subst hsz; subst hby
  have hyl : ys.length = fl.length * i.size := hown.1
  have hcell : ∀ (j : Nat) u, ys[j]? = some u → w.cell? (Addr.add ⟨g, 0, none⟩ j) = some u := fun j u hj => by
    have := hsub j u hj
    rw [cellsOf_eq hg] at this
    rw [Addr.add_lit, Nat.zero_add, cell_at hg]
    simpa using this
  have hidk : id ≠ k := fun h => by rw [h, hm] at hid; cases hid
  have hidq : id ≠ q := fun h => by rw [h, hq] at hid; cases hid
  have hkq : k ≠ q := fun h => by rw [h, hq] at hm; cases hm
  obtain ⟨v', w', hrun, hX', hex, hM'⟩ := hM.appendDarX (id := id) (fs := fl) hm hx hid t o.type i z hu hi hz hzs (some ⟨g, 0, none⟩) (cap + 1) ys hyl hrr (reachR_noOw fl ys hno) (.inr ⟨_, rfl, hcell⟩) (RowsO_one hrr hyl) hb h63
  rw [← hyv] at hrun
  obtain ⟨g', n', c', hv', hnew⟩ := hex.resolve_left hne
  have hM2 := Mem.less2 hM' q .dead (fun _ _ _ => ⟨trivial, fun b hb => (Ob.has_dead hb).elim⟩) ⟨fun h => by simp at h, fun h => by rw [upd_ne _ _ _ hidq.symm, upd_ne _ _ _ hkq.symm, hq] at h; cases h⟩
  have hM3 := hM2.toDah (k := id) (g := g') (n := n') (c := c') (hs := hs.map fun h => (es.length + h.1, h.2)) (es := es ++ fl) (e := e) (by rw [upd_ne _ _ _ hidq, upd_same]) (by rw [upd_same, hv']) hi (fun h hmem => by
    obtain ⟨h0, hm0, rfl⟩ := List.mem_map.1 hmem
    obtain ⟨a, n, c, inf2, y, hyv2, hinf2, hXy, hcy⟩ := hholes h0 hm0
    rw [hi] at hinf2; cases hinf2
    rw [hyv] at hyv2; cases hyv2
    refine ⟨y, hX' _ _ hXy, ?_⟩
    dsimp only at hcy ⊢
    obtain ⟨b1, b2⟩ := hlt h0 hm0
    have hp : h0.1 * i.size + h0.2.1 < ys.length := by rw [hyl]; exact at_lt b1 b2
    have e1 : ys[h0.1 * i.size + h0.2.1]? = some y := by
      rw [List.getElem?_eq_getElem hp]
      have := hsub _ _ (List.getElem?_eq_getElem hp)
      rw [hcy] at this; exact this.symm
    have := hnew _ _ e1
    rw [show (es.length + h0.1) * i.size + h0.2.1 = es.length * i.size + (h0.1 * i.size + h0.2.1) by rw [Nat.add_mul]; omega]
    exact this)
  refine ⟨.value v', v', w', G, _, append_exec ho hrun, .inl rfl, Gle.refl G, hX', ?_, ?_⟩
  · have e : upd (upd (upd (upd m k .dead) id (.dar (es ++ fl) e)) q .dead) id (.dah (es ++ fl) e (hs.map fun h => (es.length + h.1, h.2))) = app m [(k, .dead), (q, .dead), (id, .dah (es ++ fl) e (hs.map fun h => (es.length + h.1, h.2)))] := by
      show _ = upd (upd (upd m k .dead) q .dead) id _
      funext z
      unfold upd
      by_cases h1 : z = id
      · simp [h1]
      · by_cases h2 : z = q
        · subst h2; simp [h1]
        · simp [h1, h2]
    rw [← e]; exact hM3
  · rw [V.Is]; exact upd_same _ _ _
end
end Go.Abs
end
section
set_option linter.unusedVariables false
set_option linter.unusedSimpArgs false
namespace Go.Abs
section
variable {P : Program} {C : Cx} {m : Nat → Ob} {w : World} {G : Im} {X : Xm}
theorem Mem.appendDarD (hM : Mem P C m w G X) {k q id : Nat} {es fs : List (List T)} {e : TypeId} {x y0 : Value} (hm : m k = .dar es e) (hx : X k = some x) (hid : m id = .no) (hqy : X q = some y0) (hqk : q ≠ k)
    (t ty : TypeId) (i : TypeInfo) (z : Value) (ht : P.underlying t = some (.slice e)) (hi : P.info? e = some i) (hz : i.zero = some z) (hzs : z.cells.size = i.size)
    (B : Option Addr) (c : Nat) (news : List Value) (hl : news.length = fs.length * i.size) (hr2 : T.RowsO P G w i.size fs news) {R : List Nat} (hre : T.reachR w fs news = R) (hRq : ∀ b ∈ R, (m q).has w y0 b) (hRnd : R.Nodup)
    (hnews : fs.length = 0 ∨ ∃ a, B = some a ∧ ∀ j u, news[j]? = some u → w.cell? (a.add j) = some u) (h1 : ∀ u ∈ news, u.oneCell' = true) (hbytes : (es.length + fs.length) * i.bytes ≤ 140737488355328) (h63 : es.length + fs.length ≤ maxLen) :
    ∃ v' w', (Builtin.append_ #[t, t] ty #[x, .slice B fs.length c]).run P w = .ok v' w' ∧ Xle X (upd X id (some v')) ∧
      Mem P C (upd (upd (upd m k .dead) q .dead) id (.dar (es ++ fs) e)) w' G (upd X id (some v')) := by
  have hXid : X id = none := (hM.free id).2 hid
  have hqid : q ≠ id := by rintro rfl; rw [hqy] at hXid; cases hXid
  have hkid : k ≠ id := by rintro rfl; rw [hx] at hXid; cases hXid
  have ho := hM.ob k x hx
  rw [hm] at ho
  obtain ⟨⟨xs, i', hi', hown, hr, hn⟩, hnd⟩ := ho
  rw [hi] at hi'; cases hi'
  obtain ⟨v', w', hrun, hown', hcases⟩ := run_append_casesZ (P := P) t ty e i z ht hi hz hzs x es.length xs hown B c fs.length news hl hnews h1 hbytes h63
  have hxl : xs.length = es.length * i.size := hown.1
  have hlen := T.RowsO.len hr
  -- what x reaches
  obtain ⟨N, hNr, hNk, hNn, hNo⟩ : ∃ N : List Nat, (∀ l, (∀ p, p < es.length * i.size → l[p]? = xs[p]?) → T.reachR w es l = N) ∧ (∀ b ∈ N, (m k).has w x b) ∧ N.Nodup ∧
      (∀ g n c, x = .slice (some ⟨g, 0, none⟩) n (c + 1) → g ∉ N ∧ (m k).has w x g) := by
    refine ⟨T.reachR w es xs, fun l h => T.reachR_pre i.size hlen h, ?_⟩
    rcases own_cases hown with ⟨⟨A, rfl⟩, h0, _⟩ | ⟨g, cap, cur, rfl, hg, _, _, _, _, _, hsub⟩
    · have : es = [] := List.eq_nil_of_length_eq_zero h0
      subst this
      exact ⟨fun b hb => (by cases hb), List.nodup_nil, fun g n c h => (by cases h)⟩
    · have hsame : T.reachR w es (cellsOf w g) = T.reachR w es xs := T.reachR_pre i.size hlen (fun p hp => by
        have hp2 : p < xs.length := by omega
        rw [List.getElem?_eq_getElem hp2]; exact hsub _ _ (List.getElem?_eq_getElem hp2))
      rw [T.reach, hsame] at hnd
      obtain ⟨a1, a2⟩ := List.nodup_cons.1 hnd
      refine ⟨fun b hb => ?_, a2, fun g1 n1 c1 h => ?_⟩
      · rw [hm]; show b ∈ T.reach w (.ow e es) _
        rw [T.reach, hsame]; exact List.mem_cons_of_mem _ hb
      · cases h
        refine ⟨a1, ?_⟩
        rw [hm]; show g ∈ T.reach w (.ow e es) _
        rw [T.reach]; simp
  have hNlt : ∀ b ∈ N, b < w.heap.size := fun b hb => hM.blk_lt hx (hNk b hb)
  -- the block of the answer
  have key : ((∃ A, v' = .slice A 0 0) ∧ es = [] ∧ fs = []) ∨ ∃ g n' c' rest, v' = .slice (some ⟨g, 0, none⟩) n' (c' + 1) ∧ cellsOf w' g = (xs ++ news) ++ rest ∧ G g = none ∧ g ∉ N ∧ ((m k).has w x g ∨ g = w.heap.size) := by
    rcases own_cases hown' with ⟨hv, h0, _⟩ | ⟨g, cap, cur, rfl, hg, _, _, _, _, h7, _⟩
    · exact .inl ⟨hv, List.eq_nil_of_length_eq_zero (by omega), List.eq_nil_of_length_eq_zero (by omega)⟩
    · refine .inr ⟨g, _, cap, cur.toList.drop ((es.length + fs.length) * i.size), rfl, by rw [cellsOf_eq hg, ← h7, List.take_append_drop], ?_⟩
      rcases hcases with ⟨h1, _, _⟩ | ⟨g1, cap1, cur1, cur', rest, h1, h2, _⟩ | ⟨cap', cur', rest, h1, _, _⟩
      · exact ⟨hn _ _ _ h1.symm, (hNo _ _ _ h1.symm).1, .inl (hNo _ _ _ h1.symm).2⟩
      · cases h2
        exact ⟨hn _ _ _ h1, (hNo _ _ _ h1).1, .inl (hNo _ _ _ h1).2⟩
      · cases h1
        exact ⟨hM.gok.none (Nat.le_refl _), fun h => absurd (hNlt _ h) (by omega), .inr rfl⟩
  have hw : ∀ b, b < w.heap.size → (∀ g n c, x = .slice (some ⟨g, 0, none⟩) n (c + 1) → b ≠ g) → w'.heap[b]? = w.heap[b]? := by
    intro b hb hbg
    rcases hcases with ⟨_, rfl, _⟩ | ⟨g, cap, cur, cur', rest, hxg, _, hg, rfl, _⟩ | ⟨cap', cur', rest, _, rfl, _⟩
    · rfl
    · exact setRow_other w g b _ (hbg _ _ _ hxg)
    · exact alloc_old (w := w.drew) hb
  have hgl : Gok G w' ∧ w'.os = w.os ∧ w'.tape = w.tape ∧ w'.output = w.output ∧ w.heap.size ≤ w'.heap.size := by
    rcases hcases with ⟨_, rfl, _⟩ | ⟨g, cap, cur, cur', rest, rfl, _, hg, rfl, _⟩ | ⟨cap', cur', rest, _, rfl, _⟩
    · exact ⟨hM.gok, rfl, rfl, rfl, Nat.le_refl _⟩
    · exact ⟨setRow_gok hM.gok (hn _ _ _ rfl) _, rfl, rfl, rfl, by simp⟩
    · exact ⟨Gok.alloc (w := w.drew) hM.gok _, rfl, rfl, rfl, by simp⟩
  have hone : v'.oneCell' = true := by rcases key with ⟨⟨A, rfl⟩, _⟩ | ⟨g, n', c', rest, rfl, _⟩ <;> rfl
  have hwk : ∀ b, b < w.heap.size → ¬ (m k).has w x b → w'.heap[b]? = w.heap[b]? := fun b hb hnb => hw b hb (fun g n c hxg h => hnb (h ▸ (hNo g n c hxg).2))
  have hwN : ∀ b ∈ N, w'.heap[b]? = w.heap[b]? := fun b hb => hw b (hNlt b hb) (fun g n c hxg h => (hNo g n c hxg).1 (h ▸ hb))
  have hNR : ∀ b ∈ N, b ∉ R := fun b hb hb2 => hqk (hM.apart q k y0 x b hqy hx (hRq b hb2) (hNk b hb))
  have hwR : ∀ b ∈ R, w'.heap[b]? = w.heap[b]? := fun b hb => hw b (hM.blk_lt hqy (hRq b hb)) (fun g n c hxg h => hqk (hM.apart q k y0 x b hqy hx (hRq b hb) (h ▸ (hNo g n c hxg).2)))
  -- the rows in the new world
  have hes : T.RowsO P G w' i.size es xs ∧ T.reachR w' es xs = N := by
    have hN : T.reachR w es xs = N := hNr xs (fun _ _ => rfl)
    have := T.RowsO.congr (Gle.refl G) (w' := w') i.size es xs (fun b hb => ⟨hwN b (by rw [← hN]; exact hb), rfl⟩) hr
    exact ⟨this.1, this.2.trans hN⟩
  have hfs := T.RowsO.congr (Gle.refl G) (w' := w') i.size fs news (fun b hb => ⟨hwR b (by rw [← hre]; exact hb), rfl⟩) hr2
  rw [hre] at hfs
  have hRn := T.RowsO.append hxl hes.1 hfs.1
  have hreach : ∀ g rest, cellsOf w' g = (xs ++ news) ++ rest → T.reachR w' (es ++ fs) (cellsOf w' g) = N ++ R := by
    intro g rest hc
    rw [T.reachR_append i.size es fs _ hlen]
    have a1 : T.reachR w' es (cellsOf w' g) = T.reachR w' es xs := T.reachR_pre i.size hlen (fun p hp => by
      rw [hc, List.append_assoc, List.getElem?_append_left (by omega)])
    have a2 : T.reachR w' fs ((cellsOf w' g).drop (es.length * i.size)) = T.reachR w' fs news := T.reachR_pre i.size (T.RowsO.len hr2) (fun p hp => by
      rw [hc, List.append_assoc, ← hxl, List.drop_left, List.getElem?_append_left (by omega)])
    rw [a1, a2, hes.2, hfs.2]
  have hmd : upd (upd (upd m k .dead) q .dead) id (.dar (es ++ fs) e) id = .dar (es ++ fs) e := upd_same _ _ _
  have hmk : upd (upd (upd m k .dead) q .dead) id (.dar (es ++ fs) e) k = .dead := by rw [upd_ne _ _ _ hkid, upd_ne _ _ _ hqk.symm, upd_same]
  have hmq : upd (upd (upd m k .dead) q .dead) id (.dar (es ++ fs) e) q = .dead := by rw [upd_ne _ _ _ hqid, upd_same]
  have hmo : ∀ k1, k1 ≠ id → k1 ≠ k → k1 ≠ q → upd (upd (upd m k .dead) q .dead) id (.dar (es ++ fs) e) k1 = m k1 := fun k1 a b c => by rw [upd_ne _ _ _ a, upd_ne _ _ _ c, upd_ne _ _ _ b]
  have hnew : ∀ b, b ∈ T.reach w' (.ow e (es ++ fs)) v' → (m k).has w x b ∨ (m q).has w y0 b ∨ b = w.heap.size := by
    intro b hb
    rcases key with ⟨⟨A, rfl⟩, _⟩ | ⟨g, n', c', rest, rfl, hc, _, _, hg⟩
    · rw [reach_capless] at hb; cases hb
    · rw [T.reach, hreach g rest hc] at hb
      rcases List.mem_cons.1 hb with rfl | hb
      · exact hg.elim .inl (fun h => .inr (.inr h))
      · rcases List.mem_append.1 hb with hb | hb
        · exact .inl (hNk b hb)
        · exact .inr (.inl (hRq b hb))
  have hh : ∀ k1 y b, k1 ≠ k → X k1 = some y → (m k1).has w' y b → (m k1).has w y b := fun k1 y b hk hy hb =>
    (Ob.has_congr (fun b2 hb2 => hwk b2 (hM.blk_lt hy hb2) (fun hb3 => hk (hM.apart k1 k y x b2 hy hx hb2 hb3))) (hM.ob k1 y hy) b).1 hb
  have hsrc : ∀ k1 y b, upd X id (some v') k1 = some y → (upd (upd (upd m k .dead) q .dead) id (.dar (es ++ fs) e) k1).has w' y b → (k1 = id ∧ ((m k).has w x b ∨ (m q).has w y0 b ∨ b = w.heap.size)) ∨ (k1 ≠ id ∧ k1 ≠ k ∧ k1 ≠ q ∧ X k1 = some y ∧ (m k1).has w y b) := by
    intro k1 y b hy hb
    by_cases e1 : k1 = id
    · subst e1; rw [upd_same] at hy; cases hy; rw [hmd] at hb
      exact .inl ⟨rfl, hnew b hb⟩
    · rw [upd_ne _ _ _ e1] at hy
      by_cases e2 : k1 = k
      · subst e2; rw [hmk] at hb; exact (Ob.has_dead hb).elim
      · by_cases e3 : k1 = q
        · subst e3; rw [hmq] at hb; exact (Ob.has_dead hb).elim
        rw [hmo k1 e1 e2 e3] at hb
        exact .inr ⟨e1, e2, e3, hy, hh k1 y b e2 hy hb⟩
  refine ⟨v', w', hrun, Xle_upd hXid, hM.gle, hM.gold, hgl.1, ⟨hgl.2.1.trans hM.keeps.os, hgl.2.2.1.trans hM.keeps.tape, hgl.2.2.2.1.trans hM.keeps.output, Nat.le_trans hM.keeps.size hgl.2.2.2.2, fun b hb hnb => ?_⟩, ?_, ?_, ?_, ?_, ?_, fun k1 y hk => Xle_upd hXid k1 y (hM.old k1 y hk)⟩
  · rw [hwk b (by have := hM.keeps.size; omega) (fun hb' => ?_)]
    · exact hM.keeps.block b hb hnb
    · rcases hM.mine k x b hx hb' with h3 | h3
      · exact hnb h3
      · omega
  · intro k1 y hy
    by_cases e1 : k1 = id
    · subst e1; rw [upd_same] at hy; cases hy
      rw [hmd]
      refine ⟨⟨xs ++ news, i, hi, by rw [List.length_append]; exact hown', hRn, fun a n1 c1 ha => ?_⟩, ?_⟩
      · rcases key with ⟨hA, _⟩ | ⟨g, n', c', rest, rfl, _, hg, _⟩
        · obtain ⟨A, rfl⟩ := hA; simp at ha
        · cases ha; exact hg
      · rcases key with ⟨⟨A, rfl⟩, _⟩ | ⟨g, n', c', rest, rfl, hc, _, hgN, hgk⟩
        · rw [reach_capless]; exact List.nodup_nil
        · rw [T.reach, hreach g rest hc]; exact List.nodup_cons.2 ⟨fun h => by
            rcases List.mem_append.1 h with h | h
            · exact hgN h
            · rcases hgk with hgk | rfl
              · exact hqk (hM.apart q k y0 x g hqy hx (hRq g h) hgk)
              · exact absurd (hM.blk_lt hqy (hRq _ h)) (Nat.lt_irrefl _), List.nodup_append.2 ⟨hNn, hRnd, fun a ha b hb hab => hNR a ha (hab ▸ hb)⟩⟩
    · rw [upd_ne _ _ _ e1] at hy
      by_cases e2 : k1 = k
      · subst e2; rw [hmk]; trivial
      · by_cases e3 : k1 = q
        · subst e3; rw [hmq]; trivial
        rw [hmo k1 e1 e2 e3]
        exact (hM.ob k1 y hy).mono (Gle.refl G) (Xle_upd hXid) (fun _ _ => rfl) (fun b hb => hwk b (hM.blk_lt hy hb) (fun hb' => e2 (hM.apart k1 k y x b hy hx hb hb')))
  · intro k1
    by_cases e1 : k1 = id
    · subst e1; rw [hmd, upd_same]; simp
    · rw [upd_ne _ _ _ e1]
      by_cases e2 : k1 = k
      · subst e2; rw [hmk, hx]; simp
      · by_cases e3 : k1 = q
        · subst e3; rw [hmq, hqy]; simp
        rw [hmo k1 e1 e2 e3]; exact hM.free k1
  · intro k1 k2 y1 y2 b h1 h2 hb1 hb2
    rcases hsrc k1 y1 b h1 hb1 with ⟨rfl, q1⟩ | ⟨a1, a2, a3, q1, q2⟩ <;> rcases hsrc k2 y2 b h2 hb2 with ⟨e2, p1⟩ | ⟨b1, b2, b3, p1, p2⟩
    · exact e2.symm
    · rcases q1 with q1 | q1 | rfl
      · exact absurd (hM.apart k k2 _ _ b hx p1 q1 p2).symm b2
      · exact absurd (hM.apart q k2 _ _ b hqy p1 q1 p2).symm b3
      · exact absurd (hM.blk_lt p1 p2) (by omega)
    · rcases p1 with p1 | p1 | rfl
      · exact absurd (hM.apart k k1 _ _ b hx q1 p1 q2).symm a2
      · exact absurd (hM.apart q k1 _ _ b hqy q1 p1 q2).symm a3
      · exact absurd (hM.blk_lt q1 q2) (by omega)
    · exact hM.apart _ _ _ _ b q1 p1 q2 p2
  · intro k1 y hy hb0 hb
    rcases hsrc k1 _ _ hb0 hb with ⟨_, q | q | rfl⟩ | ⟨_, _, _, q1, q2⟩
    · exact hM.mine _ _ _ hx q
    · exact hM.mine _ _ _ hqy q
    · exact .inr hM.keeps.size
    · exact hM.mine _ _ _ q1 q2
  · intro k1 y hy
    by_cases e1 : k1 = id
    · subst e1; rw [upd_same] at hy; cases hy; exact hone
    · rw [upd_ne _ _ _ e1] at hy; exact hM.cell _ _ hy
theorem did_append_own (hM : Mem P C m w G X) {id k q : Nat} (hid : m id = .no) (hkq : q ≠ k) {t e : TypeId} {by' sz : Nat} (ht : apOf P t = some (e, by', sz)) {es fl : List (List T)}
    (hm : m k = .dar es e) (hq : m q = .dar fl e) (hb : (es.length + fl.length) * by' ≤ 140737488355328) {ρ : Operand → Value} {o : Oper} {x y : Operand}
    (ho : o.op = .call { callee := .builtin .append, args := #[x, y], argTypes := #[t, t] }) (hx : V.Is G X (.ar k) (ρ x)) (hy : V.Is G X (.ar q) (ρ y)) :
    Did P C m G X ((execOp ρ o).run P w) (.ar id) [(k, .dead), (q, .dead), (id, .dar (es ++ fl) e)] := by
  obtain ⟨i, z, hu, hi, hz, hzs, hby, hsz, hb0, hs0⟩ := apOf_spec ht
  rw [V.Is] at hx hy
  have h63 : es.length + fl.length ≤ maxLen := by
    have : es.length + fl.length ≤ (es.length + fl.length) * by' := Nat.le_mul_of_pos_right _ hb0
    simp only [maxLen]; omega
  have hob := hM.ob q _ hy
  rw [hq] at hob
  obtain ⟨⟨ys, inf, hinf, hown, hrr, hn⟩, hnd⟩ := hob
  rw [hi] at hinf; cases hinf
  subst hsz; subst hby
  have hyl : ys.length = fl.length * i.size := hown.1
  have fin : ∀ {v' : Value} {w' : World} {B : Option Addr} {c : Nat}, ρ y = .slice B fl.length c → (Builtin.append_ #[t, t] o.type #[ρ x, .slice B fl.length c]).run P w = .ok v' w' → Xle X (upd X id (some v')) → Mem P C (upd (upd (upd m k .dead) q .dead) id (.dar (es ++ fl) e)) w' G (upd X id (some v')) →
      Did P C m G X ((execOp ρ o).run P w) (.ar id) [(k, .dead), (q, .dead), (id, .dar (es ++ fl) e)] := fun hyv hrun hX' hM' => by
    rw [← hyv] at hrun
    exact ⟨.value _, _, _, G, _, append_exec ho hrun, .inl rfl, Gle.refl G, hX', hM', by rw [V.Is]; exact upd_same _ _ _⟩
  rcases own_cases hown with ⟨⟨A, hyv⟩, h00, rfl⟩ | ⟨g, cap, cur, hyv, hg, hgl, h4, h5, h6, h7, hsub⟩
  · have : fl = [] := List.eq_nil_of_length_eq_zero h00
    subst this
    obtain ⟨v', w', hrun, hX', hM'⟩ := hM.appendDarD (id := id) (fs := []) hm hx hid hy hkq t o.type i z hu hi hz hzs A 0 [] hyl hrr rfl (fun b hb => by cases hb) List.nodup_nil (.inl rfl) (fun u hu => by cases hu) hb h63
    exact fin hyv hrun hX' hM'
  · have hcell : ∀ (j : Nat) u, ys[j]? = some u → w.cell? (Addr.add ⟨g, 0, none⟩ j) = some u := fun j u hj => by
      have := hsub j u hj
      rw [cellsOf_eq hg] at this
      rw [Addr.add_lit, Nat.zero_add, cell_at hg]
      simpa using this
    have hsame : T.reachR w fl (cellsOf w g) = T.reachR w fl ys := T.reachR_pre i.size (T.RowsO.len hrr) (fun p hp => by
      have hp2 : p < ys.length := by omega
      rw [List.getElem?_eq_getElem hp2]; exact hsub _ _ (List.getElem?_eq_getElem hp2))
    rw [hyv, T.reach, hsame] at hnd
    obtain ⟨a1, a2⟩ := List.nodup_cons.1 hnd
    obtain ⟨v', w', hrun, hX', hM'⟩ := hM.appendDarD (id := id) (fs := fl) hm hx hid hy hkq t o.type i z hu hi hz hzs (some ⟨g, 0, none⟩) (cap + 1) ys hyl hrr rfl (fun b hb => by
      rw [hq, hyv]; show b ∈ T.reach w (.ow e fl) _
      rw [T.reach, hsame]; exact List.mem_cons_of_mem _ hb) a2 (.inr ⟨_, rfl, hcell⟩) (RowsO_one hrr hyl) hb h63
    exact fin hyv hrun hX' hM'
end
end Go.Abs
end
section
set_option linter.unusedVariables false
set_option linter.unusedSimpArgs false
namespace Go.Abs
section
variable {P : Program} {C : Cx} {m : Nat → Ob} {w : World} {G : Im} {X : Xm}
theorem Mem.aliasO (hM : Mem P C m w G X) {a b : Nat} {o : Ob} {v : Value} (hno : o ≠ .no) (ha : m a = o) (hX : X a = some v) (hb : m b = .no) : Mem P C (upd (upd m a .dead) b (o)) w G (upd X b (some v)) ∧ Xle X (upd X b (some v)) := by
  have hXb : X b = none := (hM.free b).2 hb
  have hab : a ≠ b := fun h => by rw [h, hb] at ha; exact hno ha.symm
  have hle := Xle_upd (X := X) (k := b) (x := v) hXb
  have hmo : ∀ k, k ≠ b → k ≠ a → upd (upd m a Ob.dead) b (o) k = m k := fun k h1 h2 => by rw [upd_ne _ _ _ h1, upd_ne _ _ _ h2]
  have hma : upd (upd m a Ob.dead) b (o) a = .dead := by rw [upd_ne _ _ _ hab, upd_same]
  have hmb : upd (upd m a Ob.dead) b (o) b = o := upd_same _ _ _
  refine ⟨⟨hM.gle, hM.gold, hM.gok, hM.keeps, ?_, ?_, ?_, ?_, ?_, fun k y hk => hle k y (hM.old k y hk)⟩, hle⟩
  · intro k x hk
    by_cases h1 : k = b
    · subst h1
      rw [upd_same] at hk; cases hk
      rw [hmb]
      have := (hM.ob a v hX).mono (Gle.refl G) hle (fun _ _ => rfl) (fun _ _ => rfl)
      rw [ha] at this
      exact this
    · rw [upd_ne _ _ _ h1] at hk
      by_cases h2 : k = a
      · subst h2; rw [hma]; trivial
      · rw [hmo k h1 h2]
        exact (hM.ob k x hk).mono (Gle.refl G) hle (fun _ _ => rfl) (fun _ _ => rfl)
  · intro k
    by_cases h1 : k = b
    · subst h1; rw [hmb, upd_same]; simp [hno]
    · rw [upd_ne _ _ _ h1]
      by_cases h2 : k = a
      · subst h2; rw [hma, hX]; simp
      · rw [hmo k h1 h2]; exact hM.free k
  · intro k k' x x' bl hk hk' hb1 hb2
    have red : ∀ k x, upd X b (some v) k = some x → (upd (upd m a Ob.dead) b (o) k).has w x bl → ∃ k0, X k0 = some x ∧ (m k0).has w x bl ∧ ((k = b ∧ k0 = a) ∨ (k ≠ b ∧ k ≠ a ∧ k0 = k)) := by
      intro k x hk hbk
      by_cases h1 : k = b
      · subst h1
        rw [upd_same] at hk; cases hk
        rw [hmb] at hbk
        exact ⟨a, hX, by rw [ha]; exact hbk, .inl ⟨rfl, rfl⟩⟩
      · rw [upd_ne _ _ _ h1] at hk
        by_cases h2 : k = a
        · subst h2; rw [hma] at hbk; exact (Ob.has_dead hbk).elim
        · rw [hmo k h1 h2] at hbk
          exact ⟨k, hk, hbk, .inr ⟨h1, h2, rfl⟩⟩
    obtain ⟨k1, q1, q2, q3⟩ := red k x hk hb1
    obtain ⟨k2, r1, r2, r3⟩ := red k' x' hk' hb2
    have := hM.apart k1 k2 x x' bl q1 r1 q2 r2
    rcases q3 with ⟨rfl, rfl⟩ | ⟨h1, h2, rfl⟩ <;> rcases r3 with ⟨rfl, rfl⟩ | ⟨h3, h4, rfl⟩
    · rfl
    · exact absurd this.symm h4
    · exact absurd this h2
    · exact this
  · intro k x bl hk hbk
    by_cases h1 : k = b
    · subst h1
      rw [upd_same] at hk; cases hk
      rw [hmb] at hbk
      exact hM.mine a v bl hX (by rw [ha]; exact hbk)
    · rw [upd_ne _ _ _ h1] at hk
      by_cases h2 : k = a
      · subst h2; rw [hma] at hbk; exact (Ob.has_dead hbk).elim
      · rw [hmo k h1 h2] at hbk; exact hM.mine k x bl hk hbk
  · intro k x hk
    by_cases h1 : k = b
    · subst h1; rw [upd_same] at hk; cases hk; exact hM.cell a v hX
    · rw [upd_ne _ _ _ h1] at hk; exact hM.cell k x hk
end
section
variable {P : Program} {n : Nat} {ops : Array Oper} {K : List (Nat × Oper × Ev) → St → Prop} {r : List (Oper × Nat)} {acc : List (Nat × Oper × Ev)} {ix : Nat} {s : Nat → V} {m : Nat → Ob} {d : Tmp} {ty : TypeId} {pos : String} {after : Array Edge} {g : Option (Nat × Bool)}
theorem s_stS {α : Type} {l : List α} {y : α} {t e : TypeId} {p x : Operand} {q sz : Nat} {j : Int} {vs : List V} (row : α → List T) (fs : List T) (hs : List (Nat × Nat × Nat)) (hix : idx l j = some y) (hsz : szOf P t = some sz) (he : szOf P e = some sz)
    (hr : Run P n ops K r ((ix, ⟨none, .store t p x, ty, pos, after, g⟩, ⟨.jk, [(q, .dah ((l.map row).set j.toNat fs) e hs)], [q]⟩) :: acc) ⟨s, upd m q (.dah ((l.map row).set j.toNat fs) e hs)⟩) (hg : guardOf n ops ⟨none, .store t p x, ty, pos, after, g⟩ ⟨s, m⟩ = some true := by rfl) (hp : ev n s p = .re q j.toNat sz 0 := by conv => lhs; whnf) (hm : m q = .dar (l.map row) e := by conv => lhs; whnf) (hx : ev n s x = .ag vs := by conv => lhs; whnf) (hrel : RelC vs fs := by repeat (first | exact .nil | refine .t ?_ | refine .ar ?_ | refine .nl ?_)) (hfl : fs.length = sz := by rfl) (hh : HolesAt vs j.toNat hs := by repeat (first | exact trivial | refine ⟨⟨rfl, rfl⟩, ?_⟩)) : Run P n ops K ((⟨none, .store t p x, ty, pos, after, g⟩, ix) :: r) acc ⟨s, m⟩ :=
  run_gen (e := ⟨.jk, [(q, .dah ((l.map row).set j.toNat fs) e hs)], [q]⟩) hg (fun s' m' q1 q2 C G X w ρ hM hE => by
    have hp' := hE p
    have hx' := hE x
    rw [q1 p (by simp [Op.operands]), hp] at hp'
    rw [q1 x (by simp [Op.operands]), hx] at hx'
    exact did_store_row hM (by rw [q2 q (by simp)]; exact hm) he (by have := idx_some hix; simp only [List.length_map]; omega) hsz hrel hfl hh rfl hp' hx') hr
theorem s_bsD {t e : TypeId} {x : Operand} {by' sz : Nat} {vs : List V} (fs : List T) (hs : List (Nat × Nat × Nat)) (ha : apOf P t = some (e, by', sz))
    (hr : Run P n ops K r ((ix, ⟨some d, .buildSlice t 1 #[(0, x)], ty, pos, after, g⟩, ⟨.ar d, [(d, .dah [fs] e hs)], [d]⟩) :: acc) ⟨upd s d (.ar d), upd m d (.dah [fs] e hs)⟩) (hg : guardOf n ops ⟨some d, .buildSlice t 1 #[(0, x)], ty, pos, after, g⟩ ⟨s, m⟩ = some true := by rfl) (hx : ev n s x = .ag vs := by conv => lhs; whnf) (h1 : isNo (m d) = true := by rfl) (hsm : sz ≤ 16777216 := by decide) (hrel : RelC vs fs := by repeat (first | exact .nil | refine .t ?_ | refine .ar ?_ | refine .nl ?_)) (hfl : fs.length = sz := by rfl) (hh : HolesAt vs 0 hs := by repeat (first | exact trivial | refine ⟨⟨rfl, rfl⟩, ?_⟩)) : Run P n ops K ((⟨some d, .buildSlice t 1 #[(0, x)], ty, pos, after, g⟩, ix) :: r) acc ⟨s, m⟩ :=
  run_gen (e := ⟨.ar d, [(d, .dah [fs] e hs)], [d]⟩) hg (fun s' m' q1 q2 C G X w ρ hM hE => by
    have hx' := hE x
    rw [q1 x (by simp [Op.operands]), hx] at hx'
    exact did_build_row hM (by rw [q2 d (by simp)]; exact isNo_eq h1) ha hsm hrel hfl hh rfl hx') hr
theorem s_apH {α : Type} {l : List α} {t e : TypeId} {x y : Operand} {by' sz k q : Nat} {fs : List T} {hs : List (Nat × Nat × Nat)} (row : α → List T) (hs2 : List (Nat × Nat × Nat)) (hb : decide ((l.length + 1) * by' ≤ 140737488355328) = true) (ha : apOf P t = some (e, by', sz))
    (hr : Run P n ops K r ((ix, ⟨some d, .call { callee := .builtin .append, args := #[x, y], argTypes := #[t, t] }, ty, pos, after, g⟩, ⟨.ar d, [(k, .dead), (q, .dead), (d, .dah (l.map row ++ [fs]) e hs2)], [k, q, d]⟩) :: acc) ⟨upd s d (.ar d), upd (upd (upd m k .dead) q .dead) d (.dah (l.map row ++ [fs]) e hs2)⟩) (hg : guardOf n ops ⟨some d, .call { callee := .builtin .append, args := #[x, y], argTypes := #[t, t] }, ty, pos, after, g⟩ ⟨s, m⟩ = some true := by rfl) (hx : ev n s x = .ar k := by conv => lhs; whnf) (hy : ev n s y = .ar q := by conv => lhs; whnf) (hm : m k = .dar (l.map row) e := by conv => lhs; whnf) (hq : m q = .dah [fs] e hs := by conv => lhs; whnf) (h1 : isNo (m d) = true := by rfl) (hno : fs.all T.noOw = true := by rfl) (hhs : (hs.map fun h => ((l.map row).length + h.1, h.2)) = hs2 := by simp) (hlt : hs.all (fun h => decide (h.1 < 1) && decide (h.2.1 < sz)) = true := by rfl) : Run P n ops K ((⟨some d, .call { callee := .builtin .append, args := #[x, y], argTypes := #[t, t] }, ty, pos, after, g⟩, ix) :: r) acc ⟨s, m⟩ :=
  run_gen (e := ⟨.ar d, [(k, .dead), (q, .dead), (d, .dah (l.map row ++ [fs]) e hs2)], [k, q, d]⟩) hg (fun s' m' q1 q2 C G X w ρ hM hE => by
    have hx' := hE x
    have hy' := hE y
    rw [q1 x (by simp [Op.operands, Call.operands]), hx] at hx'
    rw [q1 y (by simp [Op.operands, Call.operands]), hy] at hy'
    have := did_append_dah hM (id := d) (by rw [q2 d (by simp)]; exact isNo_eq h1) ha (by rw [q2 k (by simp)]; exact hm) (by rw [q2 q (by simp)]; exact hq) (by simp) (by simp only [List.all_cons, List.all_nil, hno, Bool.and_true]) (by rw [List.length_map]; exact of_decide_eq_true hb) (fun h hh => by
      have := List.all_eq_true.1 hlt h hh
      rw [Bool.and_eq_true, decide_eq_true_eq, decide_eq_true_eq] at this; exact this) (o := ⟨some d, .call { callee := .builtin .append, args := #[x, y], argTypes := #[t, t] }, ty, pos, after, g⟩) rfl hx' hy'
    rw [hhs] at this
    exact this) hr
theorem s_apO {α : Type} {l l2 : List α} {t e : TypeId} {x y : Operand} {by' sz k q : Nat} (row : α → List T) (hb : decide ((l.length + l2.length) * by' ≤ 140737488355328) = true) (ha : apOf P t = some (e, by', sz))
    (hr : Run P n ops K r ((ix, ⟨some d, .call { callee := .builtin .append, args := #[x, y], argTypes := #[t, t] }, ty, pos, after, g⟩, ⟨.ar d, [(k, .dead), (q, .dead), (d, .dar ((l ++ l2).map row) e)], [k, q, d]⟩) :: acc) ⟨upd s d (.ar d), upd (upd (upd m k .dead) q .dead) d (.dar ((l ++ l2).map row) e)⟩) (hg : guardOf n ops ⟨some d, .call { callee := .builtin .append, args := #[x, y], argTypes := #[t, t] }, ty, pos, after, g⟩ ⟨s, m⟩ = some true := by rfl) (hx : ev n s x = .ar k := by conv => lhs; whnf) (hy : ev n s y = .ar q := by conv => lhs; whnf) (hm : m k = .dar (l.map row) e := by conv => lhs; whnf) (hq : m q = .dar (l2.map row) e := by conv => lhs; whnf) (h1 : isNo (m d) = true := by rfl) (hkq : q ≠ k := by decide) : Run P n ops K ((⟨some d, .call { callee := .builtin .append, args := #[x, y], argTypes := #[t, t] }, ty, pos, after, g⟩, ix) :: r) acc ⟨s, m⟩ :=
  run_gen (e := ⟨.ar d, [(k, .dead), (q, .dead), (d, .dar ((l ++ l2).map row) e)], [k, q, d]⟩) hg (fun s' m' q1 q2 C G X w ρ hM hE => by
    have hx' := hE x
    have hy' := hE y
    rw [q1 x (by simp [Op.operands, Call.operands]), hx] at hx'
    rw [q1 y (by simp [Op.operands, Call.operands]), hy] at hy'
    have := did_append_own hM (id := d) (by rw [q2 d (by simp)]; exact isNo_eq h1) hkq ha (by rw [q2 k (by simp)]; exact hm) (by rw [q2 q (by simp)]; exact hq) (by rw [List.length_map, List.length_map]; exact of_decide_eq_true hb) (o := ⟨some d, .call { callee := .builtin .append, args := #[x, y], argTypes := #[t, t] }, ty, pos, after, g⟩) rfl hx' hy'
    rw [← List.map_append] at this
    exact this) hr
theorem s_mkD {α : Type} {t e : TypeId} {x y : Operand} {by' sz : Nat} {k k' : IntKind} {j : Int} {zs : List V} (row : α → List T) (z : α) (fs : List T) (hrow : fs.map T.nisO = row z) (hc : (decide (0 ≤ j) && decide (j.toNat * by' ≤ 140737488355328)) = true) (ha : apOf P t = some (e, by', sz)) (hz : zcells P e = some zs) (hnb : fs.all (T.nisB P) = true)
    (hr : Run P n ops K r ((ix, ⟨some d, .makeSlice t x y, ty, pos, after, g⟩, ⟨.ar d, [(d, .dar ((List.replicate j.toNat z).map row) e)], [d]⟩) :: acc) ⟨upd s d (.ar d), upd m d (.dar ((List.replicate j.toNat z).map row) e)⟩) (hg : guardOf n ops ⟨some d, .makeSlice t x y, ty, pos, after, g⟩ ⟨s, m⟩ = some true := by rfl) (hx : ev n s x = .t (.sc (.int k j)) := by conv => lhs; whnf) (hy : ev n s y = .t (.sc (.int k' j)) := by conv => lhs; whnf) (h1 : isNo (m d) = true := by rfl) (hrel : RelZ zs fs := by repeat (first | exact .nil | refine .t ?_ | refine .nl ?_)) (hfl : fs.length = sz := by rfl) : Run P n ops K ((⟨some d, .makeSlice t x y, ty, pos, after, g⟩, ix) :: r) acc ⟨s, m⟩ :=
  run_gen (e := ⟨.ar d, [(d, .dar ((List.replicate j.toNat z).map row) e)], [d]⟩) hg (fun s' m' q1 q2 C G X w ρ hM hE => by
    have hx' := hE x
    have hy' := hE y
    rw [q1 x (by simp [Op.operands]), hx, V.Is, T.Is] at hx'
    rw [q1 y (by simp [Op.operands]), hy, V.Is, T.Is] at hy'
    rw [Bool.and_eq_true, decide_eq_true_eq, decide_eq_true_eq] at hc
    obtain ⟨i, rfl⟩ := Int.eq_ofNat_of_zero_le hc.1
    have := did_makeN hM (id := d) (by rw [q2 d (by simp)]; exact isNo_eq h1) ha hz hrel hfl hnb (n := i) hc.2 (o := ⟨some d, .makeSlice t x y, ty, pos, after, g⟩) rfl hx' hy'
    rw [List.map_replicate, hrow, ← List.map_replicate] at this
    exact this) hr
theorem s_ldHD {α β : Type} {l : List α} {y : α} {t e e2 : TypeId} {x : Operand} {q sz off : Nat} {j : Int} (row : α → List T) (rowL : β → List T) (l2 : List β) (hix : idx l j = some y) (ha : aggOf P t = some false) (he : szOf P e = some sz)
    (hr : Run P n ops K r ((ix, ⟨some d, .load t x, ty, pos, after, g⟩, ⟨.ar d, [(q, .dah ((l.map row).set j.toNat ((row y).set off .any)) e [(j.toNat, off, d)]), (d, .dar (l2.map rowL) e2)], [q, d]⟩) :: acc) ⟨upd s d (.ar d), upd (upd m q (.dah ((l.map row).set j.toNat ((row y).set off .any)) e [(j.toNat, off, d)])) d (.dar (l2.map rowL) e2)⟩) (hg : guardOf n ops ⟨some d, .load t x, ty, pos, after, g⟩ ⟨s, m⟩ = some true := by rfl) (hx : ev n s x = .re q j.toNat sz off := by conv => lhs; whnf) (hm : m q = .dar (l.map row) e := by conv => lhs; whnf) (hw : (row y)[off]? = some (.ow e2 (l2.map rowL)) := by rfl) (h1 : isNo (m d) = true := by rfl) : Run P n ops K ((⟨some d, .load t x, ty, pos, after, g⟩, ix) :: r) acc ⟨s, m⟩ :=
  run_gen (e := ⟨.ar d, [(q, .dah ((l.map row).set j.toNat ((row y).set off .any)) e [(j.toNat, off, d)]), (d, .dar (l2.map rowL) e2)], [q, d]⟩) hg (fun s' m' q1 q2 C G X w ρ hM hE => by
    have hx' := hE x
    rw [q1 x (by simp [Op.operands]), hx] at hx'
    have h0 := idx_some hix
    have e1 : (l.map row)[j.toNat]? = some (row y) := by rw [List.getElem?_map, h0.2.2]; rfl
    exact did_load_hole hM (d := d) (by rw [q2 q (by simp)]; exact hm) he e1 hw (by rw [q2 d (by simp)]; exact isNo_eq h1) ha (o := ⟨some d, .load t x, ty, pos, after, g⟩) rfl hx') hr
theorem s_ldHA {α β : Type} {l : List α} {y : α} {t e e2 : TypeId} {x : Operand} {q sz off : Nat} {j : Int} (row : α → List T) (rowL : β → List T) (l2 : List β) (hpl : ∀ y, (rowL y).all T.plain = true) (hix : idx l j = some y) (ha : aggOf P t = some false) (he : szOf P e = some sz)
    (hr : Run P n ops K r ((ix, ⟨some d, .load t x, ty, pos, after, g⟩, ⟨.ar d, [(q, .dah ((l.map row).set j.toNat ((row y).set off .any)) e [(j.toNat, off, d)]), (d, .arr (l2.map rowL) e2 true)], [q, d]⟩) :: acc) ⟨upd s d (.ar d), upd (upd m q (.dah ((l.map row).set j.toNat ((row y).set off .any)) e [(j.toNat, off, d)])) d (.arr (l2.map rowL) e2 true)⟩) (hg : guardOf n ops ⟨some d, .load t x, ty, pos, after, g⟩ ⟨s, m⟩ = some true := by rfl) (hx : ev n s x = .re q j.toNat sz off := by conv => lhs; whnf) (hm : m q = .dar (l.map row) e := by conv => lhs; whnf) (hw : (row y)[off]? = some (.ow e2 (l2.map rowL)) := by rfl) (h1 : isNo (m d) = true := by rfl) : Run P n ops K ((⟨some d, .load t x, ty, pos, after, g⟩, ix) :: r) acc ⟨s, m⟩ :=
  run_gen (e := ⟨.ar d, [(q, .dah ((l.map row).set j.toNat ((row y).set off .any)) e [(j.toNat, off, d)]), (d, .arr (l2.map rowL) e2 true)], [q, d]⟩) hg (fun s' m' q1 q2 C G X w ρ hM hE => by
    have hx' := hE x
    rw [q1 x (by simp [Op.operands]), hx] at hx'
    have h0 := idx_some hix
    have e1 : (l.map row)[j.toNat]? = some (row y) := by rw [List.getElem?_map, h0.2.2]; rfl
    obtain ⟨a1, a2, a3, a4, a5, a6, a7, a8, a9, a10, a11⟩ := did_load_hole hM (d := d) (by rw [q2 q (by simp)]; exact hm) he e1 hw (by rw [q2 d (by simp)]; exact isNo_eq h1) ha (o := ⟨some d, .load t x, ty, pos, after, g⟩) rfl hx'
    have b := Mem.ofDar a10 (k := d) (by show upd _ _ _ _ = _; rw [upd_same]) (plain_map hpl)
    refine ⟨a1, a2, a3, a4, a5, a6, a7, a8, a9, ?_, a11⟩
    have e3 : upd (app m' [(q, .dah ((l.map row).set j.toNat ((row y).set off .any)) e [(j.toNat, off, d)]), (d, .dar (l2.map rowL) e2)]) d (.arr (l2.map rowL) e2 true) = app m' [(q, .dah ((l.map row).set j.toNat ((row y).set off .any)) e [(j.toNat, off, d)]), (d, .arr (l2.map rowL) e2 true)] := upd_upd _ _ _ _
    rw [e3] at b
    exact b) hr
theorem s_stC {α : Type} {l : List α} {y : α} {t e : TypeId} {p x : Operand} {q sz off : Nat} {j : Int} {t0 u : T} (row : α → List T) (y2 : α) (hix : idx l j = some y) (hrow2 : row y2 = (row y).set off u) (hs : szOf P t = some 1) (he : szOf P e = some sz)
    (hr : Run P n ops K r ((ix, ⟨none, .store t p x, ty, pos, after, g⟩, ⟨.jk, [(q, .dar ((l.set j.toNat y2).map row) e)], [q]⟩) :: acc) ⟨s, upd m q (.dar ((l.set j.toNat y2).map row) e)⟩) (hg : guardOf n ops ⟨none, .store t p x, ty, pos, after, g⟩ ⟨s, m⟩ = some true := by rfl) (hp : ev n s p = .re q j.toNat sz off := by conv => lhs; whnf) (hm : m q = .dar (l.map row) e := by conv => lhs; whnf) (hx : ev n s x = .t u := by conv => lhs; whnf) (hw : (row y)[off]? = some t0 := by rfl) (hno : t0.noOw = true := by rfl) : Run P n ops K ((⟨none, .store t p x, ty, pos, after, g⟩, ix) :: r) acc ⟨s, m⟩ :=
  run_gen (e := ⟨.jk, [(q, .dar ((l.set j.toNat y2).map row) e)], [q]⟩) hg (fun s' m' q1 q2 C G X w ρ hM hE => by
    have hp' := hE p
    have hx' := hE x
    rw [q1 p (by simp [Op.operands]), hp] at hp'
    rw [q1 x (by simp [Op.operands]), hx] at hx'
    have h0 := idx_some hix
    have e1 : (l.map row)[j.toNat]? = some (row y) := by rw [List.getElem?_map, h0.2.2]; rfl
    have := did_store_cell hM (u := u) (by rw [q2 q (by simp)]; exact hm) he e1 hw (fun w x => reach_noOw t0 x hno) hs (o := ⟨none, .store t p x, ty, pos, after, g⟩) rfl hp' hx'
    rw [← hrow2, ← List.map_set] at this
    exact this) hr
end
section
variable {P : Program} {C : Cx} {n : Nat} {c : Code} {Q : Exit → St → Prop} {s : Nat → V} {m : Nat → Ob}
theorem weak_hole {q k i off : Nat} {es : List (List T)} {e e' : TypeId} {hs : List (Nat × Nat × Nat)} {fs : List T} {es' : List (List T)} (hm : m q = .dah es e ((i, off, k) :: hs)) (hd : m k = .dar es' e') (hi : es[i]? = some fs) (hj : fs[off]? = some .any) :
    Weak P C n ⟨s, m⟩ ⟨s, upd (upd m k .dead) q (.dah (es.set i (fs.set off (.ow e' es'))) e hs)⟩ := by
  rintro x w ⟨G, X, hM, hd', hsz, ht⟩
  replace hM : Mem P C m w G X := hM
  exact ⟨G, X, Mem.joinHole hM hm hd hi hj, hd', hsz, ht⟩
theorem weak_holeA {q k i off : Nat} {es : List (List T)} {e e' : TypeId} {hs : List (Nat × Nat × Nat)} {fs : List T} {es' : List (List T)} (hm : m q = .dah es e ((i, off, k) :: hs)) (hd : m k = .arr es' e' true) (hi : es[i]? = some fs) (hj : fs[off]? = some .any) :
    Weak P C n ⟨s, m⟩ ⟨s, upd (upd m k .dead) q (.dah (es.set i (fs.set off (.ow e' es'))) e hs)⟩ := by
  rintro x w ⟨G, X, hM, hd', hsz, ht⟩
  replace hM : Mem P C m w G X := hM
  have hkq : q ≠ k := fun h => by rw [h, hd] at hm; cases hm
  have h1 := Mem.joinHole (hM.toDar hd) (by rw [upd_ne _ _ _ hkq]; exact hm) (upd_same _ _ _) hi hj
  rw [upd_upd] at h1
  exact ⟨G, X, h1, hd', hsz, ht⟩
theorem awp_jsD {α : Type} (q k : Nat) {row : α → List T} {l : List α} {y : α} {j : Int} {off : Nat} {e e2 : TypeId} {fs : List T} (fs2 : List T) {es2 : List (List T)} {hs : List (Nat × Nat × Nat)} (hix : idx l j = some y) (h : AWP P C n c Q ⟨s, upd (upd m k .dead) q (.dah ((l.map row).set j.toNat fs2) e hs)⟩)
    (hm : m q = .dah ((l.map row).set j.toNat fs) e ((j.toNat, off, k) :: hs) := by conv => lhs; whnf) (hd : m k = .dar es2 e2 := by conv => lhs; whnf) (hj : fs[off]? = some .any := by rfl) (hf : fs.set off (.ow e2 es2) = fs2 := by rfl) : AWP P C n c Q ⟨s, m⟩ := by
  have h0 := idx_some hix
  have := weak_hole (P := P) (C := C) (n := n) (s := s) hm hd (by rw [List.getElem?_set_self]; simp only [List.length_map]; omega) hj
  rw [List.set_set, hf] at this
  exact awp_weak this h
theorem awp_jsA {α : Type} (q k : Nat) {row : α → List T} {l : List α} {y : α} {j : Int} {off : Nat} {e e2 : TypeId} {fs : List T} (fs2 : List T) {es2 : List (List T)} {hs : List (Nat × Nat × Nat)} (hix : idx l j = some y) (h : AWP P C n c Q ⟨s, upd (upd m k .dead) q (.dah ((l.map row).set j.toNat fs2) e hs)⟩)
    (hm : m q = .dah ((l.map row).set j.toNat fs) e ((j.toNat, off, k) :: hs) := by conv => lhs; whnf) (hd : m k = .arr es2 e2 true := by conv => lhs; whnf) (hj : fs[off]? = some .any := by rfl) (hf : fs.set off (.ow e2 es2) = fs2 := by rfl) : AWP P C n c Q ⟨s, m⟩ := by
  have h0 := idx_some hix
  have := weak_holeA (P := P) (C := C) (n := n) (s := s) hm hd (by rw [List.getElem?_set_self]; simp only [List.length_map]; omega) hj
  rw [List.set_set, hf] at this
  exact awp_weak this h
theorem awp_nsH {α : Type} (q : Nat) {row : α → List T} {l : List α} {j : Int} {e : TypeId} {fs : List T} (y2 : α) (hrow : row y2 = fs) (h : AWP P C n c Q ⟨s, upd m q (.dar ((l.set j.toNat y2).map row) e)⟩)
    (hm : m q = .dah ((l.map row).set j.toNat fs) e [] := by conv => lhs; whnf) : AWP P C n c Q ⟨s, m⟩ := by
  refine awp_weak ?_ h
  rintro x w ⟨G, X, hM, hd', hsz, ht⟩
  replace hM : Mem P C m w G X := hM
  have h1 := hM.noHole hm
  rw [← hrow, ← List.map_set] at h1
  exact ⟨G, X, h1, hd', hsz, ht⟩
def nisC (P : Program) : T → Bool
  | .sc (.nis e) => (szOf P e).isSome
  | _ => true
def nisRow : Nat → List (List T) → List (List T)
  | _, [] => []
  | 0, r :: rs => r.map T.nisO :: rs
  | i + 1, r :: rs => r :: nisRow i rs
theorem nisRow_len : ∀ (i : Nat) (es : List (List T)), (nisRow i es).length = es.length
  | _, [] => by cases ‹Nat› <;> rfl
  | 0, r :: rs => rfl
  | i + 1, r :: rs => by rw [nisRow, List.length_cons, List.length_cons, nisRow_len i rs]
theorem nisRow_app {fs : List T} : ∀ es : List (List T), nisRow es.length (es ++ [fs]) = es ++ [fs.map T.nisO]
  | [] => rfl
  | r :: rs => by rw [List.length_cons, List.cons_append, List.cons_append, nisRow, nisRow_app rs]
theorem T.IsO_nisC {P : Program} {G : Im} {w : World} (t : T) (x : Value) (hb : nisC P t = true) (h : T.IsO P G w t x) : T.IsO P G w t.nisO x ∧ T.reach w t.nisO x = T.reach w t x := by
  cases t with
  | sc s =>
    cases s with
    | nis e =>
      have hb' : T.nisB P (.sc (.nis e)) = true := hb
      have := T.IsO_nis (P := P) (w := w) (G := G) (.sc (.nis e)) x hb' h
      refine ⟨this.1, this.2.trans ?_⟩
      cases x <;> rfl
    | _ => exact ⟨h, rfl⟩
  | _ => exact ⟨h, rfl⟩
theorem T.CellsO_nisC {P : Program} {G : Im} {w : World} : ∀ (ts : List T) (l : List Value), ts.all (nisC P) = true → T.CellsO P G w ts l → T.CellsO P G w (ts.map T.nisO) l ∧ T.reachC w (ts.map T.nisO) l = T.reachC w ts l
  | [], _, _, _ => ⟨trivial, rfl⟩
  | t :: ts, l, hb, h => by
    rw [List.all_cons, Bool.and_eq_true] at hb
    obtain ⟨⟨c, hc, hi⟩, h2⟩ := h
    have h1 := T.IsO_nisC (P := P) t c hb.1 hi
    have h3 := T.CellsO_nisC ts _ hb.2 h2
    refine ⟨⟨⟨c, hc, h1.1⟩, h3.1⟩, ?_⟩
    rw [List.map_cons, T.reachC, T.reachC, List.getD_eq_getElem?_getD, hc, Option.getD_some, h1.2, h3.2]
theorem T.RowsO_nisC {P : Program} {G : Im} {w : World} (sz : Nat) : ∀ (i : Nat) (es : List (List T)) (l : List Value), (∀ r, es[i]? = some r → r.all (nisC P) = true) → T.RowsO P G w sz es l → T.RowsO P G w sz (nisRow i es) l ∧ T.reachR w (nisRow i es) l = T.reachR w es l
  | _, [], _, _, _ => by cases ‹Nat› <;> exact ⟨trivial, rfl⟩
  | 0, r :: rs, l, hb, h => by
    have h1 := T.CellsO_nisC (P := P) r l (hb r rfl) h.2.1
    refine ⟨⟨by rw [List.length_map]; exact h.1, h1.1, h.2.2⟩, ?_⟩
    rw [nisRow, T.reachR, T.reachR, h1.2, List.length_map]
  | i + 1, r :: rs, l, hb, h => by
    have h3 := T.RowsO_nisC sz i rs _ (fun r hr => hb r (by simpa using hr)) h.2.2
    refine ⟨⟨h.1, h.2.1, h3.1⟩, ?_⟩
    rw [nisRow, T.reachR, T.reachR, h.1, h3.2]
theorem Mem.nisDar {P : Program} {C : Cx} {m : Nat → Ob} {w : World} {G : Im} {X : Xm} (hM : Mem P C m w G X) {k i : Nat} {es : List (List T)} {e : TypeId} (hm : m k = .dar es e) (hb : ∀ r, es[i]? = some r → r.all (nisC P) = true) : Mem P C (upd m k (.dar (nisRow i es) e)) w G X := by
  refine Mem.less2 hM k _ (fun x hx hok => ?_) ⟨fun h => by simp at h, fun h => by rw [hm] at h; cases h⟩
  rw [hm] at hok ⊢
  obtain ⟨⟨xs, inf, hi, hown, hr, hg⟩, hnd⟩ := hok
  have hO := T.RowsO_nisC (P := P) (w := w) inf.size i es xs hb hr
  have hre : T.reach w (.ow e (nisRow i es)) x = T.reach w (.ow e es) x := by
    rcases own_cases hown with ⟨⟨A, rfl⟩, _⟩ | ⟨g, cap, cur, rfl, hg2, hlt, h4, h5, h6, h7, hsub⟩
    · rw [reach_capless, reach_capless]
    · rw [T.reach, T.reach, (T.RowsO_nisC (P := P) (G := G) (w := w) inf.size i es _ hb (T.RowsO.sub inf.size es _ _ hsub hr)).2]
  exact ⟨⟨⟨xs, inf, hi, by rw [nisRow_len]; exact hown, hO.1, hg⟩, by rw [hre]; exact hnd⟩, fun b hb => by
    replace hb : b ∈ T.reach w (.ow e (nisRow i es)) x := by
      cases x <;> first | exact hb | (rename_i a _ _; cases a <;> exact hb)
    rw [hre] at hb
    cases x <;> first | exact hb | (rename_i a _ _; cases a <;> exact hb)⟩
theorem awp_naN {α : Type} (q : Nat) {row : α → List T} {l : List α} {e : TypeId} {fs : List T} (y2 : α) (hrow : row y2 = fs.map T.nisO) (hb : fs.all (nisC P) = true) (h : AWP P C n c Q ⟨s, upd m q (.dar ((l ++ [y2]).map row) e)⟩)
    (hm : m q = .dah (l.map row ++ [fs]) e [] := by conv => lhs; whnf) : AWP P C n c Q ⟨s, m⟩ := by
  refine awp_weak ?_ h
  rintro x w ⟨G, X, hM, hd', hsz, ht⟩
  replace hM : Mem P C m w G X := hM
  have h1 := (hM.noHole hm).nisDar (i := (l.map row).length) (upd_same _ _ _) (fun r hr => by
    rw [List.getElem?_append_right (Nat.le_refl _), Nat.sub_self] at hr
    cases hr; exact hb)
  rw [upd_upd, nisRow_app, ← hrow, show l.map row ++ [row y2] = (l ++ [y2]).map row by simp] at h1
  exact ⟨G, X, h1, hd', hsz, ht⟩
theorem awp_mvBO {o : Ob} {cs : List V} (k a b : Nat) (ds : List V) (h : AWP P C n c Q ⟨s, upd (upd (upd m a .dead) b o) k (.box ds)⟩)
    (hk : m k = .box cs := by conv => lhs; whnf) (ha : m a = o := by conv => lhs; whnf) (hka : k ≠ a := by decide) (hb : isNo (m b) = true := by rfl) (hr : CRel (.ar a) (.ar b) cs ds := by repeat (first | exact crel_nil | refine crel_new ?_ | refine crel_same ?_)) (hno : o ≠ .no := by simp) : AWP P C n c Q ⟨s, m⟩ := by
  refine awp_weak ?_ h
  rintro x w ⟨G, X, hM, hd, hsz, ht⟩
  replace hM : Mem P C m w G X := hM
  cases hX : X a with
  | none => rw [(hM.free a).1 hX] at ha; exact absurd ha.symm hno
  | some v =>
    have hb' := isNo_eq hb
    obtain ⟨hM', hle⟩ := hM.aliasO hno ha hX hb'
    have hkb : k ≠ b := fun h => by rw [h, hb'] at hk; cases hk
    refine ⟨G, _, hM'.box_re (k := k) (cs := cs) (by rw [upd_ne _ _ _ hkb, upd_ne _ _ _ hka]; exact hk) (fun y hy => ?_) hr, hd, hsz, fun t htn => V.Is.mono (Gle.refl G) hle _ _ (ht t htn)⟩
    rw [V.Is] at hy ⊢
    have hab : a ≠ b := fun h => by rw [h, hb'] at ha; exact hno ha.symm
    rw [upd_ne _ _ _ hab, hX] at hy
    rw [upd_same]; exact hy
theorem awp_mvS {o : Ob} {cs : List V} (t a b : Nat) (ds : List V) (h : AWP P C n c Q ⟨upd s t (.ag ds), upd (upd m a .dead) b o⟩)
    (hs : s t = .ag cs := by conv => lhs; whnf) (ha : m a = o := by conv => lhs; whnf) (hb : isNo (m b) = true := by rfl) (hr : CRel (.ar a) (.ar b) cs ds := by repeat (first | exact crel_nil | refine crel_new ?_ | refine crel_same ?_)) (hno : o ≠ .no := by simp) : AWP P C n c Q ⟨s, m⟩ := by
  refine awp_weak ?_ h
  rintro x w ⟨G, X, hM, hd, hsz, ht⟩
  replace hM : Mem P C m w G X := hM
  cases hX : X a with
  | none => rw [(hM.free a).1 hX] at ha; exact absurd ha.symm hno
  | some v =>
    have hb' := isNo_eq hb
    obtain ⟨hM', hle⟩ := hM.aliasO hno ha hX hb'
    have hab : a ≠ b := fun h => by rw [h, hb'] at ha; exact hno ha.symm
    refine ⟨G, _, hM', hd, hsz, fun t1 htn => ?_⟩
    have h1 := V.Is.mono (Gle.refl G) hle _ _ (ht t1 htn)
    show V.Is G _ (upd s t (.ag ds) t1) _
    by_cases e : t1 = t
    · subst e
      rw [upd_same]
      replace h1 : V.Is G _ (s t1) _ := h1
      rw [hs, V.Is] at h1
      rw [V.Is]
      obtain ⟨xs, hx, hl⟩ := h1
      refine ⟨xs, hx, crel_is (fun y hy => ?_) hr hl⟩
      rw [V.Is] at hy ⊢
      rw [upd_ne _ _ _ hab, hX] at hy
      rw [upd_same]; exact hy
    · rw [upd_ne _ _ _ e]; exact h1
theorem awp_ownS {y : TypeInfo} {cs : List V} (t b e : Nat) (ds : List V) (he : P.info? e = some y) (h : AWP P C n c Q ⟨upd s t (.ag ds), upd m b (.arr [] e true)⟩)
    (hs : s t = .ag cs := by conv => lhs; whnf) (hb : isNo (m b) = true := by rfl) (hr : CRel .nl (.ar b) cs ds := by repeat (first | exact crel_nil | refine crel_same ?_ | refine crel_new ?_)) : AWP P C n c Q ⟨s, m⟩ := by
  refine awp_weak ?_ h
  rintro x w ⟨G, X, hM, hd, hsz, ht⟩
  replace hM : Mem P C m w G X := hM
  obtain ⟨hM', hle⟩ := hM.nilArr (isNo_eq hb) he
  refine ⟨G, _, hM', hd, hsz, fun t1 htn => ?_⟩
  have h1 := V.Is.mono (Gle.refl G) hle _ _ (ht t1 htn)
  show V.Is G _ (upd s t (.ag ds) t1) _
  by_cases e' : t1 = t
  · subst e'
    rw [upd_same]
    replace h1 : V.Is G _ (s t1) _ := h1
    rw [hs, V.Is] at h1
    rw [V.Is]
    obtain ⟨xs, hx, hl⟩ := h1
    refine ⟨xs, hx, crel_is (fun z hz => ?_) hr hl⟩
    rw [V.Is] at hz
    rw [V.Is, upd_same, hz]
  · rw [upd_ne _ _ _ e']; exact h1
end
theorem objs_or (L L2 : List (Nat × Ob)) (hL : L.all (fun p => !isNo p.2) = true) (k : Nat) : objs (L ++ L2) k = (objs L k).or (objs L2 k) := by
  induction L with
  | nil => rfl
  | cons p L ih =>
    obtain ⟨i, o⟩ := p
    rw [List.all_cons, Bool.and_eq_true] at hL
    rw [List.cons_append, objs_cons, objs_cons]
    by_cases hk : k = i
    · rw [if_pos hk, if_pos hk]
      refine (Ob.or_of (fun h => ?_) _).symm
      have := hL.1
      rw [h] at this; cases this
    · rw [if_neg hk, if_neg hk]
      exact ih hL.2
theorem objs_all (f : Ob → Bool) (hn : f .no = true) : ∀ (L : List (Nat × Ob)), L.all (fun p => f p.2) = true → ∀ k, f (objs L k) = true
  | [], _, k => hn
  | (i, o) :: L, h, k => by
    rw [List.all_cons, Bool.and_eq_true] at h
    rw [objs_cons]
    split
    · exact h.1
    · exact objs_all f hn L h.2 k
theorem objs_out {k : Nat} : ∀ {L : List (Nat × Ob)}, objs L k ≠ .no → k ∈ L.map (·.1)
  | [], h => absurd rfl h
  | (i, o) :: L, h => by
    rw [objs_cons] at h
    by_cases hk : k = i
    · simp [hk]
    · rw [if_neg hk] at h; simp [objs_out h]
theorem ac_lend {P : Program} {f : FuncId} {args cargs : List V} {r : V} {res : Nat → Ob} (L L2 : List (Nat × Ob)) (hAC : AC P f cargs noOb r res) (hres : res = objs L2) (hc : V.lendL (objs L) args = cargs) (hl : L.all (fun p => p.2.lends) = true) (hnn : L.all (fun p => !isNo p.2) = true) (ha : V.lendsL args = true)
    (hr : r.flat = true) (hf : L2.all (fun p => p.2.flat) = true) (hdis : (L2.map (·.1)).all (fun k => !(L.map (·.1)).elem k) = true) : AC P f args (objs L) r (objs (L ++ L2)) := by
  subst hres
  refine AC.lend hAC hc (objs_all _ rfl L hl) ha hr (objs_all _ rfl L2 hf) (fun k hk => ?_) (objs_or L L2 hnn)
  refine Classical.byContradiction fun hk2 => ?_
  have h1 := objs_out hk
  have h2 := List.all_eq_true.1 hdis k (objs_out hk2)
  simp only [Bool.not_eq_true', List.elem_eq_mem, decide_eq_false_iff_not] at h2
  exact h2 h1
end Go.Abs
end
section
set_option linter.unusedVariables false
set_option linter.unusedSimpArgs false
namespace Go.Abs
theorem flat_rS : ∀ l : List ByteArray, T.flatR (l.map rS) = true
  | [] => rfl
  | x :: xs => by rw [List.map_cons, T.flatR, flat_rS xs]; rfl
theorem plain_rI (y : Int) : (rI y).all T.plain = true := rfl
theorem lend_map {α : Type} {row rowD : α → List T} (h : ∀ x, T.lendC (rowD x) = row x) : ∀ l : List α, T.lendR (l.map rowD) = l.map row
  | [] => rfl
  | x :: xs => by rw [List.map_cons, T.lendR, h x, lend_map h xs]; rfl
theorem flat_map {α : Type} {rowD : α → List T} (h : ∀ x, T.flatC (rowD x) = true) : ∀ l : List α, T.flatR (l.map rowD) = true
  | [] => rfl
  | x :: xs => by rw [List.map_cons, T.flatR, h x, flat_map h xs]; rfl
theorem Form.rowDE (eI eF : Nat) (x : Form) : x.rowD eI eF = [ti x.kind, tstr x.name, ti x.n, .ow eI (x.scopes.map rI), .ow eF (x.kids.map (Form.rowD eI eF))] := Form.rowD_eq eI eF x
theorem Form.lendM (eI eF : Nat) (l : List Form) : T.lendR (l.map (Form.rowD eI eF)) = l.map Form.row := lend_map (Form.lend eI eF) l
theorem Form.flatM (eI eF : Nat) (l : List Form) : T.flatR (l.map (Form.rowD eI eF)) = true := flat_map (Form.flat eI eF) l
theorem Core.rowDE (eI eF eC : Nat) (x : Core) : x.rowD eI eF eC = [ti x.kind, ti x.id, tstr x.name, ti x.n, .ow eI (x.ids.map rI), ti x.data.kind, tstr x.data.name, ti x.data.n, .ow eI (x.data.scopes.map rI), .ow eF (x.data.kids.map (Form.rowD eI eF)), .ow eC (x.kids.map (Core.rowD eI eF eC))] := by
  obtain ⟨a, b, c, d, e, f, g⟩ := x
  rw [Core.rowD, Form.rowD_eq, Core.rowsD_eq]; rfl
mutual
theorem Core.flat (eI eF eC : Nat) : ∀ x : Core, T.flatC (x.rowD eI eF eC) = true
  | .mk a b c d e f g => by
    have h := Core.flats eI eF eC g
    rw [Core.rowD, flatC_append, flatC_append, Form.flat]
    simp only [T.flatC, T.flat, ti, tstr, flat_rI, h, Bool.and_self]
theorem Core.flats (eI eF eC : Nat) : ∀ l : List Core, T.flatR (Core.rowsD eI eF eC l) = true
  | [] => rfl
  | x :: xs => by rw [Core.rowsD, T.flatR, Core.flat eI eF eC x, Core.flats eI eF eC xs]; rfl
end
theorem Core.lendM (eI eF eC : Nat) (l : List Core) : T.lendR (l.map (Core.rowD eI eF eC)) = l.map Core.row := lend_map (Core.lend eI eF eC) l
theorem Core.flatM (eI eF eC : Nat) (l : List Core) : T.flatR (l.map (Core.rowD eI eF eC)) = true := flat_map (Core.flat eI eF eC) l
theorem Hit.rowDE (eI eF eH : Nat) (x : Hit) : x.rowD eI eF eH = [ti x.name.kind, tstr x.name.name, ti x.name.n, .ow eI (x.name.scopes.map rI), .ow eF (x.name.kids.map (Form.rowD eI eF)), ti x.depth, ti x.one.kind, tstr x.one.name, ti x.one.n, .ow eI (x.one.scopes.map rI), .ow eF (x.one.kids.map (Form.rowD eI eF)), .ow eH (x.many.map (Hit.rowD eI eF eH))] := by
  obtain ⟨a, b, c, d⟩ := x
  rw [Hit.rowD, Form.rowD_eq, Form.rowD_eq, Hit.rowsD_eq]; rfl
mutual
theorem Hit.flat (eI eF eH : Nat) : ∀ x : Hit, T.flatC (x.rowD eI eF eH) = true
  | .mk a b c d => by
    have h := Hit.flats eI eF eH d
    rw [Hit.rowD, flatC_append, flatC_append, flatC_append, Form.flat, Form.flat]
    simp only [T.flatC, T.flat, ti, tstr, h, Bool.and_self]
theorem Hit.flats (eI eF eH : Nat) : ∀ l : List Hit, T.flatR (Hit.rowsD eI eF eH l) = true
  | [] => rfl
  | x :: xs => by rw [Hit.rowsD, T.flatR, Hit.flat eI eF eH x, Hit.flats eI eF eH xs]; rfl
end
theorem Hit.lendM (eI eF eH : Nat) (l : List Hit) : T.lendR (l.map (Hit.rowD eI eF eH)) = l.map Hit.row := lend_map (Hit.lend eI eF eH) l
theorem Hit.flatM (eI eF eH : Nat) (l : List Hit) : T.flatR (l.map (Hit.rowD eI eF eH)) = true := flat_map (Hit.flat eI eF eH) l
theorem Rule.rowDE (eI eF : Nat) (x : Rule) : x.rowD eI eF = [ti x.pattern.kind, tstr x.pattern.name, ti x.pattern.n, .ow eI (x.pattern.scopes.map rI), .ow eF (x.pattern.kids.map (Form.rowD eI eF)), ti x.template.kind, tstr x.template.name, ti x.template.n, .ow eI (x.template.scopes.map rI), .ow eF (x.template.kids.map (Form.rowD eI eF))] := by
  obtain ⟨a, b⟩ := x
  rw [Rule.rowD, Form.rowD_eq, Form.rowD_eq]; rfl
theorem Rule.flat (eI eF : Nat) (x : Rule) : T.flatC (x.rowD eI eF) = true := by rw [Rule.rowD, flatC_append, Form.flat, Form.flat]; rfl
theorem Rule.lendM (eI eF : Nat) (l : List Rule) : T.lendR (l.map (Rule.rowD eI eF)) = l.map Rule.row := lend_map (Rule.lend eI eF) l
theorem Rule.flatM (eI eF : Nat) (l : List Rule) : T.flatR (l.map (Rule.rowD eI eF)) = true := flat_map (Rule.flat eI eF) l
def Bind.rowD (eI : Nat) (x : Bind) : List T := [tstr x.name, .ow eI (x.scopes.map rI), ti x.id]
theorem Bind.rowDE (eI : Nat) (x : Bind) : x.rowD eI = [tstr x.name, .ow eI (x.scopes.map rI), ti x.id] := rfl
theorem Bind.lend (eI : Nat) (x : Bind) : T.lendC (x.rowD eI) = x.row := by
  rw [Bind.row_eq, Bind.rowD]; simp only [T.lendC, T.lend, ti, tstr, lend_rI]
theorem Bind.flat (eI : Nat) (x : Bind) : T.flatC (x.rowD eI) = true := by rw [Bind.rowD]; simp only [T.flatC, T.flat, ti, tstr, flat_rI, Bool.and_self]
theorem Bind.lendM (eI : Nat) (l : List Bind) : T.lendR (l.map (Bind.rowD eI)) = l.map Bind.row := lend_map (Bind.lend eI) l
theorem Bind.flatM (eI : Nat) (l : List Bind) : T.flatR (l.map (Bind.rowD eI)) = true := flat_map (Bind.flat eI) l
def Macro.rowD (eI eF eR : Nat) (x : Macro) : List T := [ti x.id, .ow eF (x.literals.map (Form.rowD eI eF)), .ow eR (x.rules.map (Rule.rowD eI eF))]
theorem Macro.rowDE (eI eF eR : Nat) (x : Macro) : x.rowD eI eF eR = [ti x.id, .ow eF (x.literals.map (Form.rowD eI eF)), .ow eR (x.rules.map (Rule.rowD eI eF))] := rfl
theorem Macro.lend (eI eF eR : Nat) (x : Macro) : T.lendC (x.rowD eI eF eR) = x.row := by
  rw [Macro.row_eq, Macro.rowD]; simp only [T.lendC, T.lend, ti, Form.lendM, Rule.lendM]
theorem Macro.flat (eI eF eR : Nat) (x : Macro) : T.flatC (x.rowD eI eF eR) = true := by rw [Macro.rowD]; simp only [T.flatC, T.flat, ti, Form.flatM, Rule.flatM, Bool.and_self]
theorem Macro.lendM (eI eF eR : Nat) (l : List Macro) : T.lendR (l.map (Macro.rowD eI eF eR)) = l.map Macro.row := lend_map (Macro.lend eI eF eR) l
theorem Macro.flatM (eI eF eR : Nat) (l : List Macro) : T.flatR (l.map (Macro.rowD eI eF eR)) = true := flat_map (Macro.flat eI eF eR) l
end Go.Abs
end
section
set_option linter.unusedVariables false
set_option linter.unusedSimpArgs false
namespace Go.Abs
def mixR {α : Type} (r0 r1 : α → List T) : Nat → List α → List (List T)
  | 0, l => l.map r0
  | _ + 1, [] => []
  | n + 1, x :: xs => r1 x :: mixR r0 r1 n xs
theorem mixR_len {α : Type} {r0 r1 : α → List T} : ∀ (n : Nat) (l : List α), (mixR r0 r1 n l).length = l.length
  | 0, l => by rw [mixR, List.length_map]
  | _ + 1, [] => rfl
  | n + 1, x :: xs => by rw [mixR, List.length_cons, List.length_cons, mixR_len n xs]
theorem mixR_get {α : Type} {r0 r1 : α → List T} {y : α} : ∀ (n : Nat) (l : List α), l[n]? = some y → (mixR r0 r1 n l)[n]? = some (r0 y)
  | 0, l, h => by rw [mixR, List.getElem?_map, h]; rfl
  | _ + 1, [], h => by cases h
  | n + 1, x :: xs, h => by rw [mixR, List.getElem?_cons_succ]; exact mixR_get n xs (by simpa using h)
theorem mixR_set {α : Type} {r0 r1 : α → List T} {z : α} : ∀ (n : Nat) (l : List α), n < l.length → (mixR r0 r1 n l).set n (r1 z) = mixR r0 r1 (n + 1) (l.set n z)
  | 0, [], h => by cases h
  | 0, x :: xs, h => by rw [List.set_cons_zero, mixR, mixR, mixR, List.map_cons, List.set_cons_zero]
  | _ + 1, [], h => by cases h
  | n + 1, x :: xs, h => by rw [List.set_cons_succ, mixR, mixR, List.set_cons_succ, mixR_set n xs (by simpa using h)]
theorem mixR_all {α : Type} {r0 r1 : α → List T} : ∀ (n : Nat) (l : List α), l.length ≤ n → mixR r0 r1 n l = l.map r1
  | 0, l, h => by
    have : l = [] := List.eq_nil_of_length_eq_zero (by omega)
    subst this; rfl
  | _ + 1, [], h => rfl
  | n + 1, x :: xs, h => by rw [mixR, List.map_cons, mixR_all n xs (by simpa using h)]
theorem mixR_id {α : Type} {r0 r1 : α → List T} {y : α} : ∀ (n : Nat) (l : List α), l[n]? = some y → (mixR r0 r1 n l).set n (r1 y) = mixR r0 r1 (n + 1) l
  | 0, [], h => by cases h
  | 0, x :: xs, h => by
    have : x = y := by simpa using h
    subst this
    rw [mixR, mixR, mixR, List.map_cons, List.set_cons_zero]
  | _ + 1, [], h => by cases h
  | n + 1, x :: xs, h => by rw [mixR, mixR, List.set_cons_succ, mixR_id n xs (by simpa using h)]
section
variable {P : Program} {C : Cx} {m : Nat → Ob} {w : World} {G : Im} {X : Xm}
theorem did_load_plain (hM : Mem P C m w G X) {t e : TypeId} {k i sz : Nat} {es : List (List T)} {fs : List T} (hm : m k = .dar es e) (hes : szOf P e = some sz) (hi : es[i]? = some fs) (hp : fs.all T.plain = true) (hag : aggOf P t = some true) (hsz : szOf P t = some sz)
    {ρ : Operand → Value} {o : Oper} {x : Operand} (ho : o.op = .load t x) (hx : V.Is G X (.re k i sz 0) (ρ x)) :
    Did P C m G X ((execOp ρ o).run P w) (.ag (fs.map .t)) [] := by
  rw [V.Is] at hx
  obtain ⟨b, n, c, hX, hpx⟩ := hx
  rw [Nat.add_zero] at hpx
  have hob := hM.ob k _ hX
  rw [hm] at hob
  obtain ⟨⟨ys, inf, hinf, hown, hrr, hn⟩, _⟩ := hob
  have hinfs : inf.size = sz := by simp [szOf, hinf] at hes; exact hes
  have hil : i < es.length := (List.getElem?_eq_some_iff.1 hi).1
  rcases own_cases hown with ⟨_, h00, _⟩ | ⟨g, cap, cur, h0, hg, _, h4, _, h6, h7, hsub⟩
  · omega
  cases h0
  have hfl : fs.length = sz := by rw [← hinfs]; exact T.RowsO.len hrr fs (List.mem_of_getElem? hi)
  have hat : V.At G X (fs.map .t) (cur.toList.drop (i * sz)) := fun j v hv => by
    rw [List.getElem?_map] at hv
    cases ht : fs[j]? with
    | none => rw [ht] at hv; cases hv
    | some y =>
      rw [ht] at hv; cases hv
      obtain ⟨c, hc, hic⟩ := T.RowsO.get hrr i j fs y hi ht
      rw [hinfs] at hc
      have hcc := hsub _ _ hc
      rw [cellsOf_eq hg] at hcc
      have hpy : y.plain = true := List.all_eq_true.1 hp _ (List.mem_of_getElem? ht)
      exact ⟨c, by rw [List.getElem?_drop]; exact hcc, by rw [V.Is]; exact T.Is_of y c hpy hic⟩
  have htk : takeT P t (fs.map .t) = some (.ag (fs.map .t)) := by
    rw [takeT, hag, hsz]
    have e2 : (fs.map V.t).length = sz := by rw [List.length_map, hfl]
    simp only [e2, Nat.le_refl, if_true]
    rw [← e2, List.take_length]
  obtain ⟨y, hr, hi2⟩ := run_load_is htk hg hat
  refine ⟨.value y, y, w, G, X, ?_, .inl rfl, Gle.refl G, Xle.refl X, hM, hi2⟩
  simp [execOp, ho, hpx, hr]
end
section
variable {P : Program} {n : Nat} {ops : Array Oper} {K : List (Nat × Oper × Ev) → St → Prop} {r : List (Oper × Nat)} {acc : List (Nat × Oper × Ev)} {ix : Nat} {s : Nat → V} {m : Nat → Ob} {d : Tmp} {ty : TypeId} {pos : String} {after : Array Edge} {g : Option (Nat × Bool)}
theorem s_ldM {α : Type} {l : List α} {y : α} {t e : TypeId} {x : Operand} {q sz : Nat} {j : Int} (r0 r1 : α → List T) (fs : List T) (vs : List V) (hrow : r0 y = fs) (hix : idx l j = some y) (hag : aggOf P t = some true) (hs : szOf P t = some sz) (he : szOf P e = some sz)
    (hr : Run P n ops K r ((ix, ⟨some d, .load t x, ty, pos, after, g⟩, ⟨.ag vs, [], [q]⟩) :: acc) ⟨upd s d (.ag vs), m⟩) (hg : guardOf n ops ⟨some d, .load t x, ty, pos, after, g⟩ ⟨s, m⟩ = some true := by rfl) (hx : ev n s x = .re q j.toNat sz 0 := by conv => lhs; whnf) (hm : m q = .dar (mixR r0 r1 j.toNat l) e := by conv => lhs; whnf) (hp : fs.all T.plain = true := by rfl) (hvs : fs.map V.t = vs := by rfl)  : Run P n ops K ((⟨some d, .load t x, ty, pos, after, g⟩, ix) :: r) acc ⟨s, m⟩ :=
  run_gen (e := ⟨.ag vs, [], [q]⟩) hg (fun s' m' q1 q2 C G X w ρ hM hE => by
    have hx' := hE x
    rw [q1 x (by simp [Op.operands]), hx] at hx'
    rw [← hvs]
    exact did_load_plain hM (by rw [q2 q (by simp)]; exact hm) he (by rw [mixR_get _ _ (idx_some hix).2.2, hrow]) hp hag hs rfl hx') hr
theorem s_stM {α : Type} {l : List α} {y : α} {t e : TypeId} {p x : Operand} {q sz : Nat} {j : Int} {vs : List V} (r0 r1 : α → List T) (fs : List T) (hs : List (Nat × Nat × Nat)) (hix : idx l j = some y) (hsz : szOf P t = some sz) (he : szOf P e = some sz)
    (hr : Run P n ops K r ((ix, ⟨none, .store t p x, ty, pos, after, g⟩, ⟨.jk, [(q, .dah ((mixR r0 r1 j.toNat l).set j.toNat fs) e hs)], [q]⟩) :: acc) ⟨s, upd m q (.dah ((mixR r0 r1 j.toNat l).set j.toNat fs) e hs)⟩) (hg : guardOf n ops ⟨none, .store t p x, ty, pos, after, g⟩ ⟨s, m⟩ = some true := by rfl) (hp : ev n s p = .re q j.toNat sz 0 := by conv => lhs; whnf) (hm : m q = .dar (mixR r0 r1 j.toNat l) e := by conv => lhs; whnf) (hx : ev n s x = .ag vs := by conv => lhs; whnf) (hrel : RelC vs fs := by repeat (first | exact .nil | refine .t ?_ | refine .ar ?_ | refine .nl ?_)) (hfl : fs.length = sz := by rfl) (hh : HolesAt vs j.toNat hs := by repeat (first | exact trivial | refine ⟨⟨rfl, rfl⟩, ?_⟩)) : Run P n ops K ((⟨none, .store t p x, ty, pos, after, g⟩, ix) :: r) acc ⟨s, m⟩ :=
  run_gen (e := ⟨.jk, [(q, .dah ((mixR r0 r1 j.toNat l).set j.toNat fs) e hs)], [q]⟩) hg (fun s' m' q1 q2 C G X w ρ hM hE => by
    have hp' := hE p
    have hx' := hE x
    rw [q1 p (by simp [Op.operands]), hp] at hp'
    rw [q1 x (by simp [Op.operands]), hx] at hx'
    exact did_store_row hM (by rw [q2 q (by simp)]; exact hm) he (by have := idx_some hix; rw [mixR_len]; omega) hsz hrel hfl hh rfl hp' hx') hr
theorem s_ixM {α : Type} {l : List α} {y : α} {t : TypeId} {x i : Operand} {e e' : TypeId} {sz q : Nat} {k : IntKind} {j : Int} {fp : List Nat} (r0 r1 : α → List T) (hix : idx l j = some y) (he : elOf P t = some (e, sz)) (hr : Run P n ops K r ((ix, ⟨some d, .indexAddr t x i, ty, pos, after, g⟩, ⟨.re q j.toNat sz 0, [], fp⟩) :: acc) ⟨upd s d (.re q j.toNat sz 0), m⟩) (hg : guardOf n ops ⟨some d, .indexAddr t x i, ty, pos, after, g⟩ ⟨s, m⟩ = some true := by rfl) (hx : ev n s x = .ar q := by conv => lhs; whnf) (hm : m q = .dar (mixR r0 r1 j.toNat l) e' := by conv => lhs; whnf) (hi : ev n s i = .t (.sc (.int k j)) := by conv => lhs; whnf) (hfp : fpOf (idOf ⟨some d, .indexAddr t x i, ty, pos, after, g⟩) (ev n s) (.indexAddr t x i) = fp := by rfl) : Run P n ops K ((⟨some d, .indexAddr t x i, ty, pos, after, g⟩, ix) :: r) acc ⟨s, m⟩ := r_indexAddr hg he hx hi (idx_some hix).1 (by have := idx_some hix; simp only [indexP, hm, mixR_len]; rw [if_pos (by omega)]) hfp hr
theorem s_lenM {α : Type} {l : List α} {r0 r1 : α → List T} {n0 : Nat} {t e e' : TypeId} {q : Nat} {x : Operand} {fp : List Nat} (ht : P.underlying t = some (.slice e)) (hr : Run P n ops K r ((ix, ⟨some d, .call { callee := .builtin .len, args := #[x], argTypes := #[t] }, ty, pos, after, g⟩, ⟨.t (.sc (.int .i64 (l.length : Nat))), [], fp⟩) :: acc) ⟨upd s d (.t (.sc (.int .i64 (l.length : Nat)))), m⟩) (hg : guardOf n ops ⟨some d, .call { callee := .builtin .len, args := #[x], argTypes := #[t] }, ty, pos, after, g⟩ ⟨s, m⟩ = some true := by rfl) (hx : ev n s x = .ar q := by conv => lhs; whnf) (hm : m q = .dar (mixR r0 r1 n0 l) e' := by conv => lhs; whnf) (hfp : fpOf (idOf ⟨some d, .call { callee := .builtin .len, args := #[x], argTypes := #[t] }, ty, pos, after, g⟩) (ev n s) (.call { callee := .builtin .len, args := #[x], argTypes := #[t] }) = fp := by rfl) : Run P n ops K ((⟨some d, .call { callee := .builtin .len, args := #[x], argTypes := #[t] }, ty, pos, after, g⟩, ix) :: r) acc ⟨s, m⟩ := r_len hg ht hx (by simp only [lenV, hm, mixR_len]) hfp hr
end
section
variable {P : Program} {C : Cx} {n : Nat} {c : Code} {Q : Exit → St → Prop} {s : Nat → V} {m : Nat → Ob}
theorem awp_nmH {α : Type} (q : Nat) {r0 r1 : α → List T} {l : List α} {y : α} {j : Int} {e : TypeId} {fs : List T} (y2 : α) (hrow : r1 y2 = fs) (hix : idx l j = some y) (h : AWP P C n c Q ⟨s, upd m q (.dar (mixR r0 r1 (w64 (j + 1)).toNat (l.set j.toNat y2)) e)⟩)
    (hm : m q = .dah ((mixR r0 r1 j.toNat l).set j.toNat fs) e [] := by conv => lhs; whnf) : AWP P C n c Q ⟨s, m⟩ := by
  refine awp_weak ?_ h
  rintro x w ⟨G, X, hM, hd', hsz, ht⟩
  replace hM : Mem P C m w G X := hM
  have h1 := hM.noHole hm
  have h0 := idx_some hix
  have hX : ∃ v, X q = some v := by
    cases hX : X q with
    | none => rw [(hM.free q).1 hX] at hm; cases hm
    | some v => exact ⟨v, rfl⟩
  obtain ⟨v, hX⟩ := hX
  have hob := hM.ob q v hX
  rw [hm] at hob
  obtain ⟨⟨ys, inf, hinf, hown, hrr, hn⟩, _⟩ := hob
  rw [List.length_set, mixR_len] at hown
  have hml : l.length ≤ maxLen := by
    rcases own_cases hown with ⟨_, h00, _⟩ | ⟨g, cap, cur, _, _, _, h4, h5, _⟩
    · omega
    · omega
  have hw : w64 (j + 1) = j + 1 := by
    simp only [maxLen] at hml
    exact IntWalk.i64_in _ (by omega)
  rw [hw]
  rw [← hrow, mixR_set _ _ (by omega), show j.toNat + 1 = (j + 1).toNat by omega] at h1
  exact ⟨G, X, h1, hd', hsz, ht⟩
theorem awp_mix0 {α : Type} (q : Nat) {r0 : α → List T} (r1 : α → List T) (l : List α) {e : TypeId} (h : AWP P C n c Q ⟨s, upd m q (.dar (mixR r0 r1 (0 : Int).toNat l) e)⟩)
    (hm : m q = .arr (l.map r0) e true := by conv => lhs; whnf) : AWP P C n c Q ⟨s, m⟩ := by
  refine awp_weak ?_ h
  rintro x w ⟨G, X, hM, hd', hsz, ht⟩
  replace hM : Mem P C m w G X := hM
  have h1 := hM.toDar hm
  exact ⟨G, X, h1, hd', hsz, ht⟩
theorem awp_mixE {α : Type} (q : Nat) {r0 : α → List T} (r1 : α → List T) (l : List α) {k : Nat} {e : TypeId} (hk : l.length ≤ k) (h : AWP P C n c Q ⟨s, upd m q (.dar (l.map r1) e)⟩)
    (hm : m q = .dar (mixR r0 r1 k l) e := by conv => lhs; whnf) : AWP P C n c Q ⟨s, m⟩ := by
  refine awp_weak ?_ h
  rintro x w ⟨G, X, hM, hd', hsz, ht⟩
  replace hM : Mem P C m w G X := hM
  rw [mixR_all k l hk] at hm
  have : upd m q (.dar (l.map r1) e) = m := by funext z; by_cases hz : z = q; (· subst hz; rw [upd_same, hm]); (· rw [upd_ne _ _ _ hz])
  rw [this]
  exact ⟨G, X, hM, hd', hsz, ht⟩
end
end Go.Abs
end
