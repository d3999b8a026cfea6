/- A part of the proof: what the functions that the law calls answer, as pure values. -/
import Derived.Maps.RangeRun
import Derived.Test.YtehdhaaopmihaaaGreatDoorK9525565d14a1
set_option linter.unusedSimpArgs false
set_option linter.unusedVariables false
section
set_option linter.unusedSimpArgs false
set_option linter.unusedVariables false
namespace Go.Abs
open Go.MapKept
theorem EntriesOk.stamped {es : Array MapEntry} {c : Nat} {f : Int → Option Int} (h : EntriesOk es.toList c f) : Stamped es c := ⟨fun x hx => (h.1 x hx).1, h.2.2.1, h.2.1⟩
theorem EntriesOk.of {es : Array MapEntry} {c : Nat} {f : Int → Option Int} (hs : Stamped es c) (h : ∀ x ∈ es.toList, ∃ k v, x.key = .int .i64 k ∧ x.val = .int .i64 v ∧ f k = some v) (h2 : ∀ k v, f k = some v → ∃ e ∈ es.toList, e.key = .int .i64 k ∧ e.val = .int .i64 v) : EntriesOk es.toList c f :=
  ⟨fun x hx => ⟨hs.1 x hx, h x hx⟩, hs.2.2, hs.2.1, h2⟩
theorem EntriesOk.isKey {es : List MapEntry} {c : Nat} {f : Int → Option Int} (h : EntriesOk es c f) : ∀ x ∈ es, IsKey (.int .i64) x.key := fun x hx => by
  obtain ⟨_, k, v, hk, _⟩ := h.1 x hx
  rw [hk]; exact rfl
theorem EntriesOk.none {es : List MapEntry} {c : Nat} {f : Int → Option Int} (h : EntriesOk es c f) {k : Int} (hk : ∀ x ∈ es, x.key ≠ .int .i64 k) : f k = none := by
  cases hf : f k with
  | none => rfl
  | some v =>
    obtain ⟨e, he, h1, _⟩ := h.2.2.2 k v hf
    exact absurd h1 (hk e he)
theorem EntriesOk.at {es : List MapEntry} {c : Nat} {f : Int → Option Int} (h : EntriesOk es c f) {x : MapEntry} (hx : x ∈ es) {k : Int} (hk : x.key = .int .i64 k) : ∃ v, x.val = .int .i64 v ∧ f k = some v := by
  obtain ⟨_, k', v, h1, h2, h3⟩ := h.1 x hx
  rw [hk] at h1; cases h1
  exact ⟨v, h2, h3⟩
theorem entriesOk_nil : EntriesOk [] 0 map0 := by
  refine ⟨?_, ?_, ?_, ?_⟩
  · intro x hx; cases hx
  · exact List.nodup_nil
  · exact List.nodup_nil
  · intro k v h; cases h
theorem key_inj {l : List MapEntry} (h : (l.map (·.key)).Nodup) {x y : MapEntry} (hx : x ∈ l) (hy : y ∈ l) (he : x.key = y.key) : x = y := by
  induction l with
  | nil => cases hx
  | cons a l ih =>
    rw [List.map_cons, List.nodup_cons] at h
    rcases List.mem_cons.1 hx with rfl | hx1 <;> rcases List.mem_cons.1 hy with rfl | hy1
    · rfl
    · exact absurd (List.mem_map.2 ⟨y, hy1, he.symm⟩ : _ ∈ l.map (fun x => x.key)) h.1
    · exact absurd (List.mem_map.2 ⟨x, hx1, he⟩ : _ ∈ l.map (fun x => x.key)) h.1
    · exact ih h.2 hx1 hy1
theorem EntriesOk.push {es : Array MapEntry} {c : Nat} {f : Int → Option Int} (h : EntriesOk es.toList c f) {k v : Int} (hk : ∀ x ∈ es.toList, x.key ≠ .int .i64 k) : EntriesOk (es.push { key := .int .i64 k, val := .int .i64 v, born := c }).toList (c + 1) (mapSet f k v) := by
  refine EntriesOk.of (stamped_push h.stamped hk) (fun x hx => ?_) (fun k' v' hf => ?_)
  · rw [Array.toList_push, List.mem_append] at hx
    rcases hx with hx | hx
    · obtain ⟨_, k1, v1, h1, h2, h3⟩ := h.1 x hx
      refine ⟨k1, v1, h1, h2, ?_⟩
      unfold mapSet
      rw [if_neg (by rintro rfl; exact hk x hx h1)]; exact h3
    · rw [List.mem_singleton] at hx; subst hx
      exact ⟨k, v, rfl, rfl, by unfold mapSet; rw [if_pos rfl]⟩
  · unfold mapSet at hf
    split at hf
    · rename_i he
      subst he; cases hf
      exact ⟨_, by rw [Array.toList_push, List.mem_append]; exact .inr (List.mem_singleton.2 rfl), rfl, rfl⟩
    · obtain ⟨e, he, h1⟩ := h.2.2.2 k' v' hf
      exact ⟨e, by rw [Array.toList_push, List.mem_append]; exact .inl he, h1⟩
theorem EntriesOk.modify {es : Array MapEntry} {c : Nat} {f : Int → Option Int} (h : EntriesOk es.toList c f) {j : Nat} {e : MapEntry} (hj : es[j]? = some e) {k v : Int} (hk : e.key = .int .i64 k) : EntriesOk (es.modify j fun e => { e with key := .int .i64 k, val := .int .i64 v }).toList c (mapSet f k v) := by
  have hmem : e ∈ es.toList := by rw [← Array.getElem?_toList] at hj; exact List.mem_of_getElem? hj
  have hget : ∀ i, (es.modify j fun e => { e with key := .int .i64 k, val := .int .i64 v }).toList[i]? = if j = i then (es.toList[i]?).map (fun e => { e with key := .int .i64 k, val := .int .i64 v }) else es.toList[i]? := fun i => by
    rw [Array.getElem?_toList, Array.getElem?_modify, Array.getElem?_toList]
  refine EntriesOk.of (stamped_modify h.stamped j _ (fun _ _ => rfl) (fun x _ hx => by rw [hj] at hx; cases hx; exact hk.symm)) (fun x hx => ?_) (fun k' v' hf => ?_)
  · obtain ⟨i, hi⟩ := List.mem_iff_getElem?.1 hx
    rw [hget] at hi
    split at hi
    · cases hg : es.toList[i]? with
      | none => rw [hg] at hi; cases hi
      | some y => rw [hg] at hi; cases hi; exact ⟨k, v, rfl, rfl, by unfold mapSet; rw [if_pos rfl]⟩
    · rename_i hne
      have hy := List.mem_of_getElem? hi
      obtain ⟨_, k1, v1, h1, h2, h3⟩ := h.1 x hy
      refine ⟨k1, v1, h1, h2, ?_⟩
      unfold mapSet
      rw [if_neg]; exact h3
      rintro rfl
      have := key_inj h.2.1 hy hmem (by rw [h1, hk])
      subst this
      have hn := h.2.1
      rw [← Array.getElem?_toList] at hj
      have h5 : (es.toList.map (·.key))[i]? = some x.key := by rw [List.getElem?_map, hi]; rfl
      have h6 : (es.toList.map (·.key))[j]? = some x.key := by rw [List.getElem?_map, hj]; rfl
      exact hne ((List.getElem?_inj (List.getElem?_eq_some_iff.1 h6).1 hn).1 (h6.trans h5.symm))
  · unfold mapSet at hf
    split at hf
    · rename_i he
      subst he; cases hf
      refine ⟨{ e with key := .int .i64 k', val := .int .i64 v }, List.mem_of_getElem? (i := j) ?_, rfl, rfl⟩
      rw [hget, if_pos rfl, Array.getElem?_toList, hj]; rfl
    · rename_i hne
      obtain ⟨y, hy, h1, h2⟩ := h.2.2.2 k' v' hf
      obtain ⟨i, hi⟩ := List.mem_iff_getElem?.1 hy
      refine ⟨y, List.mem_of_getElem? (i := i) ?_, h1, h2⟩
      rw [hget, if_neg]; exact hi
      rintro rfl
      rw [Array.getElem?_toList, hj] at hi; cases hi
      rw [hk] at h1; cases h1; exact hne rfl
def mapII (P : Program) (t : TypeId) : Bool := match P.underlying t with
  | some (.map k e) => (match P.underlying k with | some (.int .i64) => true | _ => false) && (match (P.info? e).bind (·.zero) with | some (.int .i64 0) => true | _ => false)
  | _ => false
theorem mapII_spec {P : Program} {t : TypeId} (h : mapII P t = true) : ∃ k e, P.underlying t = some (.map k e) ∧ P.underlying k = some (.int .i64) ∧ ∀ w, (zeroValue e).run P w = .ok (.int .i64 0) w := by
  unfold mapII at h
  split at h
  · rename_i k e hu
    rw [Bool.and_eq_true] at h
    obtain ⟨h1, h2⟩ := h
    refine ⟨k, e, hu, ?_, fun w => ?_⟩
    · split at h1
      · rename_i hk; exact hk
      · cases h1
    · split at h2
      · rename_i hz
        cases hi : P.info? e with
        | none => rw [hi] at hz; cases hz
        | some i =>
          rw [hi, Option.bind_some] at hz
          simp [zeroValue, typeInfo, hi, hz, Result.andThen]
      · cases h2
  · cases h
section
variable {P : Program} {C : Cx} {n : Nat} {s : Nat → V} {m : Nat → Ob} {w : World} {G : Im} {X : Xm}
theorem Mem.newO (h : Mem P C m w G X) {id : Nat} (hid : m id = .no) (z : Obj) (o : Ob) (x : Value) (hno : o ≠ .no)
    (hok : Ob.Ok P G (upd X id (some x)) (w.alloc z) o x) (hb : ∀ b, o.has (w.alloc z) x b → b = w.heap.size) (hone : x.oneCell' = true) :
    Mem P C (upd m id o) (w.alloc z) G (upd X id (some x)) ∧ Xle X (upd X id (some x)) := by
  have hX : X id = none := (h.free id).2 hid
  have hh : ∀ k y b, X k = some y → (m k).has (w.alloc z) y b → (m k).has w y b := fun k y b hy hb => (Ob.has_congr (fun b hb' => alloc_old (h.blk_lt hy hb')) (h.ob k y hy) b).1 hb
  refine ⟨⟨h.gle, h.gold, h.gok.alloc _, h.keeps.alloc _, ?_, ?_, ?_, ?_, ?_, fun k y hk => Xle_upd hX k y (h.old k y hk)⟩, Xle_upd hX⟩
  · intro k y hy
    by_cases hk : k = id
    · subst hk; rw [upd_same] at hy ⊢; cases hy; exact hok
    · rw [upd_ne _ _ _ hk] at hy ⊢
      exact (h.ob k y hy).mono (Gle.refl G) (Xle_upd hX) (fun _ _ => rfl) (fun b hb' => alloc_old (h.blk_lt hy hb'))
  · intro k
    by_cases hk : k = id
    · subst hk; rw [upd_same, upd_same]; simp [hno]
    · rw [upd_ne _ _ _ hk, upd_ne _ _ _ hk]; exact h.free k
  · intro k k' y y' b hy hy' hb1 hb2
    by_cases hk : k = id <;> by_cases hk' : k' = id
    · rw [hk, hk']
    · subst hk; rw [upd_same] at hy hb1; rw [upd_ne _ _ _ hk'] at hy' hb2; cases hy
      have := hb b hb1; have := h.blk_lt hy' (hh _ _ _ hy' hb2); omega
    · subst hk'; rw [upd_same] at hy' hb2; rw [upd_ne _ _ _ hk] at hy hb1; cases hy'
      have := hb b hb2; have := h.blk_lt hy (hh _ _ _ hy hb1); omega
    · rw [upd_ne _ _ _ hk] at hy hb1; rw [upd_ne _ _ _ hk'] at hy' hb2
      exact h.apart k k' y y' b hy hy' (hh _ _ _ hy hb1) (hh _ _ _ hy' hb2)
  · intro k y b hy hb1
    by_cases hk : k = id
    · subst hk; rw [upd_same] at hy hb1; cases hy
      exact .inr (by have := hb b hb1; have := h.keeps.size; omega)
    · rw [upd_ne _ _ _ hk] at hy hb1; exact h.mine k y b hy (hh _ _ _ hy hb1)
  · intro k y hy
    by_cases hk : k = id
    · subst hk; rw [upd_same] at hy; cases hy; exact hone
    · rw [upd_ne _ _ _ hk] at hy; exact h.cell k y hy
theorem notG (hM : Mem P C m w G X) {b : Nat} {o : Obj} (h : w.heap[b]? = some o) (hc : ∀ c e fr, o ≠ .cells c e fr) : G b = none := by
  cases hg : G b with
  | none => rfl
  | some cs =>
    obtain ⟨cur, e, fr, hw, _⟩ := hM.gok b cs hg
    rw [h] at hw; cases hw; exact absurd rfl (hc cur e fr)
theorem did_makeMap (hM : Mem P C m w G X) {id : Nat} (hid : m id = .no) {t : TypeId} {ρ : Operand → Value} {o : Oper} (ho : o.op = .makeMap t none) :
    Did P C m G X ((execOp ρ o).run P w) (.ar id) [(id, .mp map0)] := by
  have hr : (execOp ρ o).run P w = .ok (.value (.map (some w.heap.size))) (w.alloc (.map #[] 0)) := by
    simp [execOp, ho, Instr.makeMap, newObj, Sem.run]
  rw [hr]
  obtain ⟨h1, h2⟩ := hM.newO hid (.map #[] 0) (.mp map0) (.map (some w.heap.size)) (by simp) ⟨w.heap.size, #[], 0, rfl, heap_alloc_new w _, entriesOk_nil⟩ (fun b hb => by rw [Ob.has_mp] at hb; cases hb; rfl) rfl
  exact ⟨_, _, _, G, _, rfl, .inl rfl, Gle.refl G, h2, h1, by rw [V.Is]; exact upd_same _ _ _⟩
theorem did_lookup (hM : Mem P C m w G X) {t : TypeId} (ht : mapII P t = true) {q : Nat} {f : Int → Option Int} (hm : m q = .mp f) {i : Int} {ρ : Operand → Value} {o : Oper} {x y : Operand} (ho : o.op = .lookup t x y false)
    (hx : V.Is G X (.ar q) (ρ x)) (hy : V.Is G X (.t (.sc (.int .i64 i))) (ρ y)) : Did P C m G X ((execOp ρ o).run P w) (.t (.sc (.int .i64 (mapGet f i)))) [] := by
  obtain ⟨k, e, hu, hk, hz⟩ := mapII_spec ht
  rw [V.Is] at hx
  have hob := hM.ob q _ hx
  rw [hm] at hob
  obtain ⟨r, es, clock, hxr, hb, hE⟩ := hob
  rw [V.Is, T.Is] at hy
  have hr : (execOp ρ o).run P w = .ok (.value (.int .i64 (mapGet f i))) w := by
    rcases findNow_spec (d := .int .i64) (k := .int .i64 i) rfl es.toList 0 hE.isKey with ⟨h1, h2⟩ | ⟨j, e', h1, h2, h3⟩
    · have : mapGet f i = 0 := by unfold mapGet; rw [hE.none h2]; rfl
      rw [this]
      simp [execOp, ho, hxr, hy, S.v, Instr.lookup, run_underlying hu, MapKept.run_getObj_map hb, MapKept.run_checkKey (d := .int .i64) (k := .int .i64 i) hk rfl, MapKept.run_findKey hk h1, hz, Result.andThen]
    · obtain ⟨v, hv, hf⟩ := hE.at (List.mem_of_getElem? h2) h3
      have : mapGet f i = v := by unfold mapGet; rw [hf]; rfl
      rw [this]
      simp [execOp, ho, hxr, hy, S.v, Instr.lookup, run_underlying hu, MapKept.run_getObj_map hb, MapKept.run_checkKey (d := .int .i64) (k := .int .i64 i) hk rfl, MapKept.run_findKey hk h1, hv, Result.andThen]
  rw [hr]
  exact did_value hM (by rw [V.Is, T.Is]; rfl)
theorem did_lookupN (hM : Mem P C m w G X) {t : TypeId} (ht : mapII P t = true) {i : Int} {ρ : Operand → Value} {o : Oper} {x y : Operand} (ho : o.op = .lookup t x y false)
    (hx : V.Is G X (.t (.sc .nim)) (ρ x)) (hy : V.Is G X (.t (.sc (.int .i64 i))) (ρ y)) : Did P C m G X ((execOp ρ o).run P w) (.t (.sc (.int .i64 0))) [] := by
  obtain ⟨k, e, hu, hk, hz⟩ := mapII_spec ht
  rw [V.Is, T.Is] at hx hy
  have h1 : Instr.findNow (.int .i64) (.int .i64 i) ([] : List MapEntry) 0 = some none := rfl
  have hr : (execOp ρ o).run P w = .ok (.value (.int .i64 0)) w := by
    simp [execOp, ho, hx, hy, S.v, Instr.lookup, run_underlying hu, MapKept.run_checkKey (d := .int .i64) (k := .int .i64 i) hk rfl, MapKept.run_findKey hk h1, hz, Result.andThen]
  rw [hr]
  exact did_value hM (by rw [V.Is, T.Is]; rfl)
theorem did_mapUpdate (hM : Mem P C m w G X) {t : TypeId} (ht : mapII P t = true) {q : Nat} {f : Int → Option Int} (hm : m q = .mp f) {i v : Int} {ρ : Operand → Value} {o : Oper} {x y z : Operand} (ho : o.op = .mapUpdate t x y z)
    (hx : V.Is G X (.ar q) (ρ x)) (hy : V.Is G X (.t (.sc (.int .i64 i))) (ρ y)) (hv : V.Is G X (.t (.sc (.int .i64 v))) (ρ z)) : Did P C m G X ((execOp ρ o).run P w) .jk [(q, .mp (mapSet f i v))] := by
  obtain ⟨k, e, hu, hk, hz⟩ := mapII_spec ht
  rw [V.Is] at hx
  have hob := hM.ob q _ hx
  rw [hm] at hob
  obtain ⟨r, es, clock, hxr, hb, hE⟩ := hob
  rw [V.Is, T.Is] at hy hv
  have hGr : ∀ b, (m q).has w (ρ x) b → G b = none := fun b hb' => by
    rw [hm, Ob.has_mp, hxr] at hb'; cases hb'
    exact notG hM hb (fun _ _ _ h => by cases h)
  have key : ∃ es' c', (execOp ρ o).run P w = .ok .skip { w with heap := w.heap.setIfInBounds r (.map es' c') } ∧ EntriesOk es'.toList c' (mapSet f i v) := by
    rcases findNow_spec (d := .int .i64) (k := .int .i64 i) rfl es.toList 0 hE.isKey with ⟨h1, h2⟩ | ⟨j, e', h1, h2, h3⟩
    · refine ⟨_, _, ?_, hE.push h2⟩
      simp [execOp, ho, hxr, hy, hv, S.v, Instr.mapUpdate, run_underlying hu, MapKept.run_getObj_map hb, MapKept.run_checkKey (d := .int .i64) (k := .int .i64 i) hk rfl, MapKept.run_findKey hk h1, MapKept.run_setObj_map _ hb, Result.andThen]
    · have hj : es[j]? = some e' := by simpa using h2
      refine ⟨_, _, ?_, hE.modify hj h3⟩
      simp [execOp, ho, hxr, hy, hv, S.v, Instr.mapUpdate, run_underlying hu, MapKept.run_getObj_map hb, MapKept.run_checkKey (d := .int .i64) (k := .int .i64 i) hk rfl, MapKept.run_findKey hk h1, hj, h3, MapKept.run_keyThatStays (d := .int .i64) (k := .int .i64 i) rfl, MapKept.run_setObj_map _ hb, Result.andThen]
  obtain ⟨es', c', hr, hE'⟩ := key
  refine ⟨.skip, undef, _, G, X, hr, .inr ⟨rfl, rfl⟩, Gle.refl G, Xle.refl X, ?_, trivial⟩
  have hset := heap_set (o' := .map es' c') hb
  refine hM.rewriteW hx (.mp (mapSet f i v)) rfl rfl rfl (by simp) (fun b hb1 hnb => hset.2 b (by rintro rfl; exact hnb (by rw [hm, Ob.has_mp]; exact hxr))) hGr (by simp) (fun b hb1 => by rw [Ob.has_mp] at hb1; rw [hm, Ob.has_mp]; exact hb1) ⟨r, es', c', hxr, hset.1, hE'⟩
theorem did_range (hM : Mem P C m w G X) {id : Nat} (hid : m id = .no) {t : TypeId} (ht : mapII P t = true) {q bm clock : Nat} {es : Array MapEntry} (hm : m q = .mpx bm es clock) {ρ : Operand → Value} {o : Oper} {x : Operand} (ho : o.op = .range t x)
    (hx : V.Is G X (.ar q) (ρ x)) : Did P C m G X ((execOp ρ o).run P w) (.ar id) [(id, .it (some bm) clock #[] clock)] := by
  obtain ⟨k, e, hu, hk, hz⟩ := mapII_spec ht
  rw [V.Is] at hx
  have hob := hM.ob q _ hx
  rw [hm] at hob
  obtain ⟨hxr, hb⟩ := hob
  have hr : (execOp ρ o).run P w = .ok (.value (.pointer (some ⟨w.heap.size, 0, none⟩))) (w.alloc (.mapIter (some bm) clock #[] clock)) := by
    simp [execOp, ho, hxr, run_range_map w t k e bm es clock hu hb]
  rw [hr]
  obtain ⟨h1, h2⟩ := hM.newO hid (.mapIter (some bm) clock #[] clock) (.it (some bm) clock #[] clock) (.pointer (some ⟨w.heap.size, 0, none⟩)) (by simp) ⟨w.heap.size, rfl, heap_alloc_new w _⟩ (fun b hb => by obtain ⟨a, ha, rfl⟩ := Ob.has_it.1 hb; cases ha; rfl) rfl
  exact ⟨_, _, _, G, _, rfl, .inl rfl, Gle.refl G, h2, h1, by rw [V.Is]; exact upd_same _ _ _⟩
theorem did_rangeN (hM : Mem P C m w G X) {id : Nat} (hid : m id = .no) {t : TypeId} (ht : mapII P t = true) {ρ : Operand → Value} {o : Oper} {x : Operand} (ho : o.op = .range t x)
    (hx : V.Is G X (.t (.sc .nim)) (ρ x)) : Did P C m G X ((execOp ρ o).run P w) (.ar id) [(id, .it none 0 #[] 0)] := by
  obtain ⟨k, e, hu, hk, hz⟩ := mapII_spec ht
  rw [V.Is, T.Is] at hx
  have hr : (execOp ρ o).run P w = .ok (.value (.pointer (some ⟨w.heap.size, 0, none⟩))) (w.alloc (.mapIter none 0 #[] 0)) := by
    simp [execOp, ho, hx, S.v, run_range_nilMap w t k e hu]
  rw [hr]
  obtain ⟨h1, h2⟩ := hM.newO hid (.mapIter none 0 #[] 0) (.it none 0 #[] 0) (.pointer (some ⟨w.heap.size, 0, none⟩)) (by simp) ⟨w.heap.size, rfl, heap_alloc_new w _⟩ (fun b hb => by obtain ⟨a, ha, rfl⟩ := Ob.has_it.1 hb; cases ha; rfl) rfl
  exact ⟨_, _, _, G, _, rfl, .inl rfl, Gle.refl G, h2, h1, by rw [V.Is]; exact upd_same _ _ _⟩
theorem did_entry (hM : Mem P C m w G X) {q d bm si clock : Nat} {seen : Array Nat} {es : Array MapEntry} {x0 : MapEntry} (hm : m q = .mpx bm es clock) (hd : m d = .it (some bm) si (seen.push x0.born) clock) (he : x0 ∈ es.toList) (hn : (es.toList.map (·.born)).Nodup) {k v : Int} (hk : x0.key = .int .i64 k) (hv : x0.val = .int .i64 v)
    (hq : ∃ y, X q = some y) {ρ : Operand → Value} {o : Oper} {x : Operand} (ho : o.op = .entry x) (hx : V.Is G X (.ar d) (ρ x)) : Did P C m G X ((execOp ρ o).run P w) (.tp [.t (.sc (.int .i64 k)), .t (.sc (.int .i64 v))]) [] := by
  rw [V.Is] at hx
  have hob := hM.ob d _ hx
  rw [hd] at hob
  obtain ⟨r, hxr, hr⟩ := hob
  obtain ⟨y, hy⟩ := hq
  have hob := hM.ob q _ hy
  rw [hm] at hob
  obtain ⟨_, hb⟩ := hob
  have hrun : (execOp ρ o).run P w = .ok (.value (.tuple #[.int .i64 k, .int .i64 v])) w := by
    have := run_entry_at (P := P) w r bm si seen es clock x0 hr hb he hn
    simp [execOp, ho, hxr, this, hk, hv]
  rw [hrun]
  refine did_value hM ?_
  rw [V.Is]
  refine ⟨_, rfl, ?_⟩
  rw [V.IsL]; refine ⟨_, _, rfl, by rw [V.Is, T.Is]; rfl, ?_⟩
  rw [V.IsL]; refine ⟨_, _, rfl, by rw [V.Is, T.Is]; rfl, ?_⟩
  rw [V.IsL]
def leftL (es : Array MapEntry) (seen : Array Nat) : List MapEntry := es.toList.filter fun e => !seen.contains e.born
theorem leftOf_list (es : Array MapEntry) (seen : Array Nat) : (leftOf es seen).toList = leftL es seen := by
  unfold leftOf leftL; simp
theorem next_run (hM : Mem P C m w G X) {q d bm clock : Nat} {seen : Array Nat} {es : Array MapEntry} {f : Int → Option Int} (hm : m q = .mpx bm es clock) (hd : m d = .it (some bm) clock seen clock) (hE : EntriesOk es.toList clock f) (hq : ∃ y, X q = some y) {ρ : Operand → Value} {o : Oper} {x : Operand} (ho : o.op = .next x false) (hx : V.Is G X (.ar d) (ρ x)) :
    (leftL es seen = [] ∧ (execOp ρ o).run P w = .ok (.value (.tuple #[.bool false])) w) ∨
    ∃ x0 ∈ leftL es seen, ∃ w', (execOp ρ o).run P w = .ok (.value (.tuple #[.bool true, x0.key, x0.val])) w' ∧ Mem P C (upd m d (.it (some bm) clock (seen.push x0.born) clock)) w' G X := by
  rw [V.Is] at hx
  have hob := hM.ob d _ hx
  rw [hd] at hob
  obtain ⟨r, hxr, hr⟩ := hob
  obtain ⟨y, hy⟩ := hq
  have hob := hM.ob q _ hy
  rw [hm] at hob
  obtain ⟨_, hb⟩ := hob
  rcases run_next_at (P := P) w o.type r bm clock clock seen es clock hr hb (fun x hx => (hE.1 x hx).1) (Nat.le_refl _) with ⟨h0, hrun⟩ | ⟨x0, hx0, w1, hw1, hrun⟩
  · left
    refine ⟨?_, by simp [execOp, ho, hxr, hrun]⟩
    rw [← leftOf_list]
    have : leftOf es seen = #[] := Array.eq_empty_of_size_eq_zero h0
    rw [this]
  · right
    rw [leftOf_list] at hx0
    refine ⟨x0, hx0, ChangeMaps.setBlock w1 r (.mapIter (some bm) clock (seen.push x0.born) clock), by simp [execOp, ho, hxr, hrun], ?_⟩
    have hM1 : Mem P C m w1 G X := by
      rcases hw1 with rfl | rfl
      · exact hM
      · exact hM.drew _
    have hr1 : w1.heap[r]? = some (.mapIter (some bm) clock seen clock) := by rcases hw1 with rfl | rfl <;> exact hr
    have hset := heap_set (o' := .mapIter (some bm) clock (seen.push x0.born) clock) hr1
    refine hM1.rewriteW hx _ rfl rfl rfl (by simp [ChangeMaps.setBlock]) (fun b hb1 hnb => hset.2 b (by rintro rfl; exact hnb (by rw [hd]; exact Ob.has_it.2 ⟨_, hxr, rfl⟩))) (fun b hb1 => ?_) (by simp) (fun b hb1 => ?_) ⟨r, hxr, hset.1⟩
    · rw [hd] at hb1
      obtain ⟨a, ha, rfl⟩ := Ob.has_it.1 hb1
      rw [hxr] at ha; cases ha
      exact notG hM1 hr1 (fun _ _ _ h => by cases h)
    · obtain ⟨a, ha, rfl⟩ := Ob.has_it.1 hb1
      rw [hd]; exact Ob.has_it.2 ⟨a, ha, rfl⟩
theorem next_runN (hM : Mem P C m w G X) {d : Nat} (hd : m d = .it none 0 #[] 0) {ρ : Operand → Value} {o : Oper} {x : Operand} (ho : o.op = .next x false) (hx : V.Is G X (.ar d) (ρ x)) : (execOp ρ o).run P w = .ok (.value (.tuple #[.bool false])) w := by
  rw [V.Is] at hx
  have hob := hM.ob d _ hx
  rw [hd] at hob
  obtain ⟨r, hxr, hr⟩ := hob
  simp only [execOp, ho, hxr, Instr.next, getObj, Sem.run_bind, Sem.run, hr, Result.andThen]
  rfl
theorem awp_mpx {c : Code} {Q : Exit → St → Prop} (q : Nat) {f : Int → Option Int} (hm : m q = .mp f) (h : ∀ bm es clock, EntriesOk es.toList clock f → AWP P C n c Q ⟨s, upd m q (.mpx bm es clock)⟩) : AWP P C n c Q ⟨s, m⟩ := by
  rintro x w ⟨G, X, hM, hd, hsz, ht⟩
  replace hM : Mem P C m w G X := hM
  cases hX : X q with
  | none => rw [(hM.free q).1 hX] at hm; cases hm
  | some y =>
    have hob := hM.ob q y hX
    rw [hm] at hob
    obtain ⟨r, es, clock, rfl, hb, hE⟩ := hob
    refine h r es clock hE x w ⟨G, X, Mem.less2 hM q _ (fun z hz hok => ?_) ⟨fun h => by simp at h, fun h => by rw [hm] at h; cases h⟩, hd, hsz, ht⟩
    rw [hX] at hz; cases hz
    exact ⟨⟨rfl, hb⟩, fun b hb => by rw [Ob.has_mpx] at hb; rw [hm, Ob.has_mp]; exact hb⟩
theorem awp_mpo {c : Code} {Q : Exit → St → Prop} (q : Nat) {f : Int → Option Int} {bm clock : Nat} {es : Array MapEntry} (hE : EntriesOk es.toList clock f) (hm : m q = .mpx bm es clock) (h : AWP P C n c Q ⟨s, upd m q (.mp f)⟩) : AWP P C n c Q ⟨s, m⟩ := by
  refine awp_weak ?_ h
  rintro x w ⟨G, X, hM, hd, hsz, ht⟩
  replace hM : Mem P C m w G X := hM
  refine ⟨G, X, Mem.less2 hM q _ (fun z hz hok => ?_) ⟨fun h => by simp at h, fun h => by rw [hm] at h; cases h⟩, hd, hsz, ht⟩
  rw [hm] at hok ⊢
  obtain ⟨rfl, hb⟩ := hok
  exact ⟨⟨bm, es, clock, rfl, hb, hE⟩, fun b hb => by rw [Ob.has_mp] at hb; rw [Ob.has_mpx]; exact hb⟩
end
end Go.Abs
end
section
set_option linter.unusedSimpArgs false
set_option linter.unusedVariables false
namespace Go.Abs
def WalkI (es : Array MapEntry) (seen : Array Nat) (f g : Int → Option Int) : Prop := ∀ x v, g x = some v ↔ (f x = some v ∧ ∃ e ∈ es.toList, e.key = .int .i64 x ∧ e.born ∈ seen.toList)
theorem walk_start {es : Array MapEntry} {f : Int → Option Int} : WalkI es #[] f map0 := fun x v => ⟨fun h => (by cases h), fun h => (by obtain ⟨_, e, _, _, h⟩ := h; simp at h)⟩
theorem left_mem {es : Array MapEntry} {seen : Array Nat} {e : MapEntry} : e ∈ leftL es seen ↔ e ∈ es.toList ∧ e.born ∉ seen.toList := by
  unfold leftL; rw [List.mem_filter]; simp
theorem walk_end {es : Array MapEntry} {clock : Nat} {seen : Array Nat} {f g : Int → Option Int} (hE : EntriesOk es.toList clock f) (h0 : leftL es seen = []) (h : WalkI es seen f g) : f = g := by
  funext x
  cases hf : f x with
  | none =>
    cases hg : g x with
    | none => rfl
    | some v => have := (h x v).1 hg; rw [hf] at this; cases this.1
  | some v =>
    obtain ⟨e, he, h1, h2⟩ := hE.2.2.2 x v hf
    refine ((h x v).2 ⟨hf, e, he, h1, ?_⟩).symm
    by_cases hb : e.born ∈ seen.toList
    · exact hb
    · have : e ∈ leftL es seen := left_mem.2 ⟨he, hb⟩
      rw [h0] at this; cases this
theorem walk_step {es : Array MapEntry} {clock : Nat} {seen : Array Nat} {f g : Int → Option Int} {x0 : MapEntry} {k v : Int} (hE : EntriesOk es.toList clock f) (hx : x0 ∈ leftL es seen) (hk : x0.key = .int .i64 k) (hf : f k = some v) (h : WalkI es seen f g) : WalkI es (seen.push x0.born) f (mapSet g k v) := by
  have hm := (left_mem.1 hx).1
  intro x u
  unfold mapSet
  by_cases hxk : x = k
  · subst hxk
    rw [if_pos rfl]
    constructor
    · intro hu; cases hu
      exact ⟨hf, x0, hm, hk, by simp⟩
    · rintro ⟨h1, _⟩; rw [hf] at h1; exact h1
  · rw [if_neg hxk, h x u]
    constructor
    · rintro ⟨h1, e, he, h2, h3⟩; exact ⟨h1, e, he, h2, by simp at h3 ⊢; exact .inl h3⟩
    · rintro ⟨h1, e, he, h2, h3⟩
      refine ⟨h1, e, he, h2, ?_⟩
      simp at h3
      rcases h3 with h3 | h3
      · simpa using h3
      · exfalso
        have : e = x0 := by
          have hn := hE.2.2.1
          have a1 := find_born e es.toList hn he
          have a2 := find_born x0 es.toList hn hm
          rw [h3] at a1; rw [a1] at a2; cases a2; rfl
        subst this
        rw [hk] at h2; cases h2; exact hxk rfl
theorem walk_less {es : Array MapEntry} {seen : Array Nat} {x0 : MapEntry} (hx : x0 ∈ leftL es seen) : (leftL es (seen.push x0.born)).length < (leftL es seen).length := by
  have e1 : leftL es (seen.push x0.born) = (leftL es seen).filter fun e => !(e.born == x0.born) := by
    unfold leftL
    rw [List.filter_filter]
    congr 1
    funext e
    rw [Bool.eq_iff_iff]
    simp [not_or]
    exact And.comm
  rw [e1]
  refine List.length_filter_lt_length_iff_exists.2 ⟨x0, hx, by simp⟩
theorem walk_at {es : Array MapEntry} {clock : Nat} {seen : Array Nat} {f : Int → Option Int} {x0 : MapEntry} (hE : EntriesOk es.toList clock f) (hx : x0 ∈ leftL es seen) : x0 ∈ es.toList ∧ ∃ k v, x0.key = .int .i64 k ∧ x0.val = .int .i64 v ∧ f k = some v := by
  have hm := (left_mem.1 hx).1
  exact ⟨hm, (hE.1 x0 hm).2⟩
section
variable {P : Program} {C : Cx} {n : Nat} {ops : Array Oper} {K : List (Nat × Oper × Ev) → St → Prop} {r : List (Oper × Nat)} {acc : List (Nat × Oper × Ev)} {ix : Nat} {s : Nat → V} {m : Nat → Ob} {d : Tmp} {ty : TypeId} {pos : String} {after : Array Edge} {g : Option (Nat × Bool)}
theorem s_mkm {t : TypeId} (hr : Run P n ops K r ((ix, ⟨some d, .makeMap t none, ty, pos, after, g⟩, ⟨.ar d, [(d, .mp map0)], [d]⟩) :: acc) ⟨upd s d (.ar d), upd m d (.mp map0)⟩) (hg : guardOf n ops ⟨some d, .makeMap t none, ty, pos, after, g⟩ ⟨s, m⟩ = some true := by rfl) (h1 : isNo (m d) = true := by rfl) : Run P n ops K ((⟨some d, .makeMap t none, ty, pos, after, g⟩, ix) :: r) acc ⟨s, m⟩ :=
  run_gen (e := ⟨.ar d, [(d, .mp map0)], [d]⟩) hg (fun s' m' q1 q2 C G X w ρ hM hE => did_makeMap hM (by rw [q2 d (by simp)]; exact isNo_eq h1) rfl) hr
theorem s_look {t : TypeId} {x y : Operand} {q : Nat} {f : Int → Option Int} {i : Int} (ht : mapII P t = true) (hr : Run P n ops K r ((ix, ⟨some d, .lookup t x y false, ty, pos, after, g⟩, ⟨.t (.sc (.int .i64 (mapGet f i))), [], [q]⟩) :: acc) ⟨upd s d (.t (.sc (.int .i64 (mapGet f i)))), m⟩) (hg : guardOf n ops ⟨some d, .lookup t x y false, ty, pos, after, g⟩ ⟨s, m⟩ = some true := by rfl) (hx : ev n s x = .ar q := by conv => lhs; whnf) (hm : m q = .mp f := by conv => lhs; whnf) (hy : ev n s y = .t (.sc (.int .i64 i)) := by conv => lhs; whnf) : Run P n ops K ((⟨some d, .lookup t x y false, ty, pos, after, g⟩, ix) :: r) acc ⟨s, m⟩ :=
  run_gen (e := ⟨.t (.sc (.int .i64 (mapGet f i))), [], [q]⟩) hg (fun s' m' q1 q2 C G X w ρ hM hE => by
    have hx' := hE x
    have hy' := hE y
    rw [q1 x (by simp [Op.operands]), hx] at hx'
    rw [q1 y (by simp [Op.operands]), hy] at hy'
    exact did_lookup hM ht (by rw [q2 q (by simp)]; exact hm) rfl hx' hy') hr
theorem s_lookN {t : TypeId} {x y : Operand} {i : Int} (ht : mapII P t = true) (hr : Run P n ops K r ((ix, ⟨some d, .lookup t x y false, ty, pos, after, g⟩, ⟨.t (.sc (.int .i64 0)), [], []⟩) :: acc) ⟨upd s d (.t (.sc (.int .i64 0))), m⟩) (hg : guardOf n ops ⟨some d, .lookup t x y false, ty, pos, after, g⟩ ⟨s, m⟩ = some true := by rfl) (hx : ev n s x = .t (.sc .nim) := by conv => lhs; whnf) (hy : ev n s y = .t (.sc (.int .i64 i)) := by conv => lhs; whnf) : Run P n ops K ((⟨some d, .lookup t x y false, ty, pos, after, g⟩, ix) :: r) acc ⟨s, m⟩ :=
  run_gen (e := ⟨.t (.sc (.int .i64 0)), [], []⟩) hg (fun s' m' q1 q2 C G X w ρ hM hE => by
    have hx' := hE x
    have hy' := hE y
    rw [q1 x (by simp [Op.operands]), hx] at hx'
    rw [q1 y (by simp [Op.operands]), hy] at hy'
    exact did_lookupN hM ht rfl hx' hy') hr
theorem s_mupd {t : TypeId} {x y z : Operand} {q : Nat} {f : Int → Option Int} {i v : Int} (ht : mapII P t = true) (hr : Run P n ops K r ((ix, ⟨none, .mapUpdate t x y z, ty, pos, after, g⟩, ⟨.jk, [(q, .mp (mapSet f i v))], [q]⟩) :: acc) ⟨s, upd m q (.mp (mapSet f i v))⟩) (hg : guardOf n ops ⟨none, .mapUpdate t x y z, ty, pos, after, g⟩ ⟨s, m⟩ = some true := by rfl) (hx : ev n s x = .ar q := by conv => lhs; whnf) (hm : m q = .mp f := by conv => lhs; whnf) (hy : ev n s y = .t (.sc (.int .i64 i)) := by conv => lhs; whnf) (hz : ev n s z = .t (.sc (.int .i64 v)) := by conv => lhs; whnf) : Run P n ops K ((⟨none, .mapUpdate t x y z, ty, pos, after, g⟩, ix) :: r) acc ⟨s, m⟩ :=
  run_gen (e := ⟨.jk, [(q, .mp (mapSet f i v))], [q]⟩) hg (fun s' m' q1 q2 C G X w ρ hM hE => by
    have hx' := hE x
    have hy' := hE y
    have hz' := hE z
    rw [q1 x (by simp [Op.operands]), hx] at hx'
    rw [q1 y (by simp [Op.operands]), hy] at hy'
    rw [q1 z (by simp [Op.operands]), hz] at hz'
    exact did_mapUpdate hM ht (by rw [q2 q (by simp)]; exact hm) rfl hx' hy' hz') hr
theorem s_range {t : TypeId} {x : Operand} {q bm clock : Nat} {es : Array MapEntry} (ht : mapII P t = true) (hr : Run P n ops K r ((ix, ⟨some d, .range t x, ty, pos, after, g⟩, ⟨.ar d, [(d, .it (some bm) clock #[] clock)], [q, d]⟩) :: acc) ⟨upd s d (.ar d), upd m d (.it (some bm) clock #[] clock)⟩) (hg : guardOf n ops ⟨some d, .range t x, ty, pos, after, g⟩ ⟨s, m⟩ = some true := by rfl) (hx : ev n s x = .ar q := by conv => lhs; whnf) (hm : m q = .mpx bm es clock := by conv => lhs; whnf) (h1 : isNo (m d) = true := by rfl) : Run P n ops K ((⟨some d, .range t x, ty, pos, after, g⟩, ix) :: r) acc ⟨s, m⟩ :=
  run_gen (e := ⟨.ar d, [(d, .it (some bm) clock #[] clock)], [q, d]⟩) hg (fun s' m' q1 q2 C G X w ρ hM hE => by
    have hx' := hE x
    rw [q1 x (by simp [Op.operands]), hx] at hx'
    exact did_range hM (by rw [q2 d (by simp)]; exact isNo_eq h1) ht (by rw [q2 q (by simp)]; exact hm) rfl hx') hr
theorem s_rangeN {t : TypeId} {x : Operand} (ht : mapII P t = true) (hr : Run P n ops K r ((ix, ⟨some d, .range t x, ty, pos, after, g⟩, ⟨.ar d, [(d, .it none 0 #[] 0)], [d]⟩) :: acc) ⟨upd s d (.ar d), upd m d (.it none 0 #[] 0)⟩) (hg : guardOf n ops ⟨some d, .range t x, ty, pos, after, g⟩ ⟨s, m⟩ = some true := by rfl) (hx : ev n s x = .t (.sc .nim) := by conv => lhs; whnf) (h1 : isNo (m d) = true := by rfl) : Run P n ops K ((⟨some d, .range t x, ty, pos, after, g⟩, ix) :: r) acc ⟨s, m⟩ :=
  run_gen (e := ⟨.ar d, [(d, .it none 0 #[] 0)], [d]⟩) hg (fun s' m' q1 q2 C G X w ρ hM hE => by
    have hx' := hE x
    rw [q1 x (by simp [Op.operands]), hx] at hx'
    exact did_rangeN hM (by rw [q2 d (by simp)]; exact isNo_eq h1) ht rfl hx') hr
theorem s_entry {x : Operand} {q it bm si clock : Nat} {seen : Array Nat} {es : Array MapEntry} {x0 : MapEntry} {f : Int → Option Int} {k v : Int} (hE0 : EntriesOk es.toList clock f) (he : x0 ∈ es.toList) (hk : x0.key = .int .i64 k) (hv : x0.val = .int .i64 v) (hr : Run P n ops K r ((ix, ⟨some d, .entry x, ty, pos, after, g⟩, ⟨.tp [.t (.sc (.int .i64 k)), .t (.sc (.int .i64 v))], [], [q, it]⟩) :: acc) ⟨upd s d (.tp [.t (.sc (.int .i64 k)), .t (.sc (.int .i64 v))]), m⟩) (hm : m q = .mpx bm es clock := by conv => lhs; whnf) (hg : guardOf n ops ⟨some d, .entry x, ty, pos, after, g⟩ ⟨s, m⟩ = some true := by rfl) (hx : ev n s x = .ar it := by conv => lhs; whnf) (hi : m it = .it (some bm) si (seen.push x0.born) clock := by conv => lhs; whnf) : Run P n ops K ((⟨some d, .entry x, ty, pos, after, g⟩, ix) :: r) acc ⟨s, m⟩ :=
  run_gen (e := ⟨.tp [.t (.sc (.int .i64 k)), .t (.sc (.int .i64 v))], [], [q, it]⟩) hg (fun s' m' q1 q2 C G X w ρ hM hE => by
    have hx' := hE x
    rw [q1 x (by simp [Op.operands]), hx] at hx'
    have hmq : m' q = .mpx bm es clock := by rw [q2 q (by simp)]; exact hm
    refine did_entry hM hmq (by rw [q2 it (by simp)]; exact hi) he hE0.2.2.1 hk hv ?_ rfl hx'
    cases hX : X q with
    | none => rw [(hM.free q).1 hX] at hmq; cases hmq
    | some y => exact ⟨y, rfl⟩) hr
theorem s_nextN {x : Operand} {it : Nat} (hr : Run P n ops K r ((ix, ⟨some d, .next x false, ty, pos, after, g⟩, ⟨.tp [.t (.sc (.bool false))], [], [it]⟩) :: acc) ⟨upd s d (.tp [.t (.sc (.bool false))]), m⟩) (hg : guardOf n ops ⟨some d, .next x false, ty, pos, after, g⟩ ⟨s, m⟩ = some true := by rfl) (hx : ev n s x = .ar it := by conv => lhs; whnf) (hi : m it = .it none 0 #[] 0 := by conv => lhs; whnf) : Run P n ops K ((⟨some d, .next x false, ty, pos, after, g⟩, ix) :: r) acc ⟨s, m⟩ :=
  run_gen (e := ⟨.tp [.t (.sc (.bool false))], [], [it]⟩) hg (fun s' m' q1 q2 C G X w ρ hM hE => by
    have hx' := hE x
    rw [q1 x (by simp [Op.operands]), hx] at hx'
    rw [next_runN hM (by rw [q2 it (by simp)]; exact hi) rfl hx']
    refine did_value hM ?_
    rw [V.Is]
    refine ⟨_, rfl, ?_⟩
    rw [V.IsL]; refine ⟨_, _, rfl, by rw [V.Is, T.Is]; rfl, ?_⟩
    rw [V.IsL]) hr
end
section
variable {P : Program} {C : Cx} {n : Nat} {Q : Exit → St → Prop} {s : Nat → V} {m : Nat → Ob}
theorem awp_next {id : Nat} {d1 d2 : Tmp} {x : Operand} {ty ty2 : TypeId} {pos pos2 : String} {after after2 : Array Edge} {it bm clock : Nat} {seen : Array Nat} {es : Array MapEntry} {f : Int → Option Int} (q : Nat) (hE : EntriesOk es.toList clock f)
    (h0 : leftL es seen = [] → Q .normal ⟨upd (upd s d1 (.tp [.t (.sc (.bool false))])) d2 (.t (.sc (.bool false))), m⟩)
    (h1 : ∀ x0 ∈ leftL es seen, Q .normal ⟨upd (upd s d1 (.tp [.t (.sc (.bool true)), .jk, .jk])) d2 (.t (.sc (.bool true))), upd m it (.it (some bm) clock (seen.push x0.born) clock)⟩)
    (hm : m q = .mpx bm es clock := by conv => lhs; whnf) (hx : ev n s x = .ar it := by conv => lhs; whnf) (hi : m it = .it (some bm) clock seen clock := by conv => lhs; whnf) (hlt : decide (d1 < n) = true := by rfl) :
    AWP P C n (.region id #[⟨some d1, .next x false, ty, pos, after, none⟩, ⟨some d2, .extract (.tmp d1) 0, ty2, pos2, after2, none⟩] false) Q ⟨s, m⟩ := by
  have hlt := of_decide_eq_true hlt
  intro a w hR
  refine wp_region ?_
  show wpOps P #[⟨some d1, .next x false, ty, pos, after, none⟩, ⟨some d2, .extract (.tmp d1) 0, ty2, pos2, after2, none⟩] _ [0, 1] a w
  obtain ⟨G, X, hM, hdf, hs, ht⟩ := hR
  have hx' := Rel.evs ht x
  replace hx' : V.Is G X (ev n s x) (a.eval x) := hx'
  rw [hx] at hx'
  replace hM : Mem P C m w G X := hM
  have hq : ∃ y, X q = some y := by
    cases hX : X q with
    | none => rw [(hM.free q).1 hX] at hm; cases hm
    | some y => exact ⟨y, rfl⟩
  have tail : ∀ (vs : List V) (b : Bool) (m1 : Nat → Ob) (a' : Act) (w' : World), Rel P C n ⟨upd s d1 (.tp (.t (.sc (.bool b)) :: vs)), m1⟩ a' w' → Q .normal ⟨upd (upd s d1 (.tp (.t (.sc (.bool b)) :: vs))) d2 (.t (.sc (.bool b))), m1⟩ →
      wpOps P #[⟨some d1, .next x false, ty, pos, after, none⟩, ⟨some d2, .extract (.tmp d1) 0, ty2, pos2, after2, none⟩] (fun e a' w' => ∃ st', Q e st' ∧ Rel P C n st' a' w') [1] a' w' := by
    intro vs b m1 a' w' hR' hQ
    have hrun : Run P n #[⟨some d1, .next x false, ty, pos, after, none⟩, ⟨some d2, .extract (.tmp d1) 0, ty2, pos2, after2, none⟩] (fun _ st' => Q .normal st') [(⟨some d2, .extract (.tmp d1) 0, ty2, pos2, after2, none⟩, 1)] [] ⟨upd s d1 (.tp (.t (.sc (.bool b)) :: vs)), m1⟩ :=
      s_ext (vs := .t (.sc (.bool b)) :: vs) (v := .t (.sc (.bool b))) (run_nil hQ) rfl (by simp only [ev, if_pos hlt, upd_same]) rfl rfl
    obtain ⟨ch, st', e1, e2, e3⟩ := run_chain (fun o i h => by simp at h; obtain ⟨rfl, rfl⟩ := h; rfl) hrun
    have := chain_sound (Q := fun e a' w' => ∃ st', Q e st' ∧ Rel P C n st' a' w') e1 (fun a w hR => ⟨st', by simpa using e3, hR⟩) hR'
    rw [e2] at this
    exact this
  rw [wpOps_cons]
  unfold wpOp
  simp only [List.getElem?_toArray, List.getElem?_cons_zero]
  have hw : Region.wanted (⟨some d1, .next x false, ty, pos, after, none⟩ : Oper) (yielded #[⟨some d1, .next x false, ty, pos, after, none⟩, ⟨some d2, .extract (.tmp d1) 0, ty2, pos2, after2, none⟩] a.tmps) = true := rfl
  rw [hw]
  simp only [if_true]
  left
  unfold Oper.wp
  rcases next_run hM hm hi hE hq (o := ⟨some d1, .next x false, ty, pos, after, none⟩) rfl hx' with ⟨hl, hrun⟩ | ⟨x0, hx0, w', hrun, hM'⟩
  · rw [show (execOp a.eval _).run P w = _ from hrun]
    refine tail [] false m _ _ ?_ (h0 hl)
    exact Rel.put (st := ⟨s, m⟩) (u := []) (v := .tp [.t (.sc (.bool false))]) hM hdf hs ht (Gle.refl G) (Xle.refl X) (by
      rw [V.Is]; refine ⟨_, rfl, ?_⟩
      rw [V.IsL]; refine ⟨_, _, rfl, by rw [V.Is, T.Is]; rfl, ?_⟩
      rw [V.IsL]) (some d1)
  · rw [show (execOp a.eval _).run P w = _ from hrun]
    refine tail [.jk, .jk] true _ _ _ ?_ (h1 x0 hx0)
    exact Rel.put (st := ⟨s, m⟩) (u := [(it, .it (some bm) clock (seen.push x0.born) clock)]) (v := .tp [.t (.sc (.bool true)), .jk, .jk]) hM' hdf hs ht (Gle.refl G) (Xle.refl X) (by
      rw [V.Is]; refine ⟨_, rfl, ?_⟩
      rw [V.IsL]; refine ⟨_, _, rfl, by rw [V.Is, T.Is]; rfl, ?_⟩
      rw [V.IsL]; refine ⟨_, _, rfl, by rw [V.Is]; trivial, ?_⟩
      rw [V.IsL]; refine ⟨_, _, rfl, by rw [V.Is]; trivial, ?_⟩
      rw [V.IsL]) (some d1)
theorem awp_nextS {id : Nat} {d1 d2 : Tmp} {x : Operand} {ty ty2 : TypeId} {pos pos2 : String} {after after2 : Array Edge} {it bm clock : Nat} {seen : Array Nat} {es : Array MapEntry} {f : Int → Option Int} (q : Nat) (hE : EntriesOk es.toList clock f)
    (h1 : ∀ x0 ∈ leftL es seen, Q .normal ⟨upd (upd s d1 (.tp [.t (.sc (.bool true)), .jk, .jk])) d2 (.t (.sc (.bool true))), upd m it (.it (some bm) clock (seen.push x0.born) clock)⟩)
    (h0 : leftL es seen = [] → Q .normal ⟨upd (upd s d1 (.tp [.t (.sc (.bool false))])) d2 (.t (.sc (.bool false))), m⟩)
    (hm : m q = .mpx bm es clock := by conv => lhs; whnf) (hx : ev n s x = .ar it := by conv => lhs; whnf) (hi : m it = .it (some bm) clock seen clock := by conv => lhs; whnf) (hlt : decide (d1 < n) = true := by rfl) :
    AWP P C n (.region id #[⟨some d1, .next x false, ty, pos, after, none⟩, ⟨some d2, .extract (.tmp d1) 0, ty2, pos2, after2, none⟩] false) Q ⟨s, m⟩ := awp_next q hE h0 h1 hm hx hi hlt
end
section
variable {P : Program} {n : Nat} {ops : Array Oper} {K : List (Nat × Oper × Ev) → St → Prop} {r : List (Oper × Nat)} {acc : List (Nat × Oper × Ev)} {ix : Nat} {s : Nat → V} {m : Nat → Ob} {d : Tmp} {ty : TypeId} {pos : String} {after : Array Edge} {g : Option (Nat × Bool)}
theorem s_mv0 {x : Operand} {v : V} (hr : Run P n ops K r ((ix, ⟨some d, .move x, ty, pos, after, g⟩, ⟨v, [], []⟩) :: acc) ⟨upd s d v, m⟩) (hg : guardOf n ops ⟨some d, .move x, ty, pos, after, g⟩ ⟨s, m⟩ = some true := by rfl) (hx : ev n s x = v := by conv => lhs; whnf) : Run P n ops K ((⟨some d, .move x, ty, pos, after, g⟩, ix) :: r) acc ⟨s, m⟩ :=
  run_gen hg (fun s' m' h1 h2 C G X w ρ hM hE => by
    have hx' := hE x
    rw [h1 x (by simp [Op.operands])] at hx'
    have hx2 : ev n s x = v := hx
    replace hx' : V.Is G X (ev n s x) (ρ x) := hx'
    rw [hx2] at hx'
    exact did_value hM hx') hr
end
end Go.Abs
end
section
set_option linter.unusedVariables false
set_option linter.unusedSimpArgs false
namespace Go.Abs
theorem ints_rB : ∀ l : List Int, ints (l.map rB) = some l
  | [] => rfl
  | x :: xs => by
    show ints ([T.sc (.int .u8 x)] :: xs.map rB) = some (x :: xs)
    rw [ints, ints_rB xs]
section
variable {P : Program} {n : Nat} {ops : Array Oper} {K : List (Nat × Oper × Ev) → St → Prop} {r : List (Oper × Nat)} {acc : List (Nat × Oper × Ev)} {ix : Nat} {s : Nat → V} {m : Nat → Ob} {d : Tmp} {ty : TypeId} {pos : String} {after : Array Edge} {g : Option (Nat × Bool)}
theorem s_bst {l : List Int} {src dst e : TypeId} {x : Operand} {v : V} {u : List (Nat × Ob)} {m1 : Nat → Ob} {fp : List Nat} (hs : P.underlying src = some (.slice e)) (hd : P.underlying dst = some .string) (he : elOf P src = some (e, 1)) (h8 : P.underlying e = some (.int .u8))
    (hr : Run P n ops K r ((ix, ⟨some d, .convert src dst x, ty, pos, after, g⟩, ⟨.t (.sc (.str (strOf l))), u, fp⟩) :: acc) ⟨upd s d (.t (.sc (.str (strOf l)))), m1⟩)
    (hg : guardOf n ops ⟨some d, .convert src dst x, ty, pos, after, g⟩ ⟨s, m⟩ = some true := by rfl) (hx : ev n s x = v := by conv => lhs; whnf) (hv : toT m v = some (.sl (l.map rB)) := by first | (conv => lhs; whnf) | rfl)
    (hfu : fzU m (fz v) = u := by repeat (first | exact fzU_nil | (apply fzU_cons; focus ((conv => lhs; whnf); done)) | (apply fzU_skip; focus ((conv => lhs; whnf); done)))) (hm1 : app m u = m1 := by simp only [app]; rfl)
    (hfp : fpOf (idOf ⟨some d, .convert src dst x, ty, pos, after, g⟩) (ev n s) (.convert src dst x) = fp := by rfl) : Run P n ops K ((⟨some d, .convert src dst x, ty, pos, after, g⟩, ix) :: r) acc ⟨s, m⟩ := by
  subst hfu; subst hm1
  exact r_any (v := .t (.sc (.str (strOf l)))) (u := fzU m (fz v)) hg (by simp only [aeff, aconvert, hx, hs, hd, he, h8, hv, ints_rB]) hfp rfl rfl hr
end
end Go.Abs
end
