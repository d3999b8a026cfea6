/- What an operation looks at: it answers the same wherever its operands and their objects are the same. -/
import Derived.Test.YtgicgbokgmmgdaaAbsJ
set_option linter.unusedSimpArgs false
set_option linter.unusedVariables false
namespace Go.Abs

mutual
def V.ids : V → List Nat
  | .rf k _ => [k]
  | .re k _ _ _ => [k]
  | .ar k => [k]
  | .ag cs => V.idsL cs
  | .tp vs => V.idsL vs
  | .fn _ caps => V.idsL caps
  | _ => []
def V.idsL : List V → List Nat
  | [] => []
  | v :: vs => v.ids ++ V.idsL vs
end
theorem V.mem_idsL {k : Nat} : ∀ {vs : List V} {v : V}, v ∈ vs → k ∈ v.ids → k ∈ V.idsL vs
  | v0 :: vs, v, h, hk => by
    rw [V.idsL, List.mem_append]
    simp at h
    rcases h with rfl | h
    · exact .inl hk
    · exact .inr (V.mem_idsL h hk)
theorem vcells_ids {v : V} {k : Nat} (h : k ∈ V.idsL (vcells v)) : k ∈ v.ids := by
  cases v <;> simp [vcells, V.idsL] at h <;> first | exact h | (rw [V.ids]; exact h)
theorem fz_ids {v : V} {k : Nat} (h : k ∈ fz v) : k ∈ v.ids := by
  cases v <;> simp [fz] at h; subst h; rw [V.ids]; simp
theorem fzs_ids : ∀ {vs : List V} {k : Nat}, k ∈ vs.flatMap fz → k ∈ V.idsL vs
  | v :: vs, k, h => by
    rw [List.flatMap_cons, List.mem_append] at h
    rw [V.idsL, List.mem_append]
    exact h.imp fz_ids fzs_ids

section
variable {m m' : Nat → Ob}
theorem toT_congr {v : V} (h : ∀ k ∈ v.ids, m' k = m k) : toT m' v = toT m v := by
  cases v <;> simp [toT]
  rename_i k
  rw [h k (by rw [V.ids]; simp)]
theorem toTs_congr : ∀ {vs : List V}, (∀ k ∈ V.idsL vs, m' k = m k) → toTs m' vs = toTs m vs
  | [], _ => rfl
  | v :: vs, h => by
    simp only [toTs, toT_congr (fun k hk => h k (by rw [V.idsL, List.mem_append]; exact .inl hk)), toTs_congr (vs := vs) (fun k hk => h k (by rw [V.idsL, List.mem_append]; exact .inr hk))]
theorem fzU_congr : ∀ {ks : List Nat} {m m' : Nat → Ob}, (∀ k ∈ ks, m' k = m k) → fzU m' ks = fzU m ks
  | [], _, _, _ => rfl
  | k :: ks, m, m', h => by
    unfold fzU
    rw [h k (by simp)]
    split
    · rename_i es e hm
      rw [fzU_congr (ks := ks) (m := upd m k (.arr es e false)) (m' := upd m' k (.arr es e false)) fun j hj => by
        by_cases hjk : j = k
        · subst hjk; rw [upd_same, upd_same]
        · rw [upd_ne _ _ _ hjk, upd_ne _ _ _ hjk]; exact h j (by simp [hj])]
    · exact fzU_congr fun j hj => h j (by simp [hj])
theorem app_congr : ∀ (u : List (Nat × Ob)) {m m' : Nat → Ob} {k : Nat}, m' k = m k → app m' u k = app m u k
  | [], _, _, _, h => h
  | (j, o) :: u, m, m', k, h => by
    rw [app, app]
    refine app_congr u ?_
    by_cases hjk : k = j
    · subst hjk; rw [upd_same, upd_same]
    · rw [upd_ne _ _ _ hjk, upd_ne _ _ _ hjk]; exact h
theorem lenV_congr {v : V} (h : ∀ k ∈ v.ids, m' k = m k) : lenV m' v = lenV m v := by
  cases v with
  | ar k => simp only [lenV]; rw [h k (by rw [V.ids]; simp)]
  | t x => cases x <;> rfl
  | sn b x => cases x <;> rfl
  | _ => rfl
theorem cellsAt_congr {v : V} (h : ∀ k ∈ v.ids, m' k = m k) : cellsAt m' v = cellsAt m v := by
  cases v <;> simp [cellsAt]
  · rename_i k off; rw [h k (by rw [V.ids]; simp)]
  · rename_i k i sz off; rw [h k (by rw [V.ids]; simp)]
theorem indexP_congr {v : V} {sz i : Nat} (h : ∀ k ∈ v.ids, m' k = m k) : indexP m' sz i v = indexP m sz i v := by
  cases v with
  | ar k => simp only [indexP]; rw [h k (by rw [V.ids]; simp)]
  | t x => cases x <;> rfl
  | _ => rfl
theorem arows_congr {sz : Nat} : ∀ {parts : List (Nat × V)} {es : List (List T)}, (∀ p ∈ parts, ∀ k ∈ p.2.ids, m' k = m k) → arows m' sz es parts = arows m sz es parts
  | [], _, _ => rfl
  | (i, v) :: r, es, h => by
    have e1 : toTs m' (vcells v) = toTs m (vcells v) := toTs_congr fun k hk => h (i, v) (by simp) k (vcells_ids hk)
    simp only [arows, e1]
    split
    · split
      · split
        · exact arows_congr fun p hp => h p (by simp [hp])
        · rfl
      · rfl
    · rfl
theorem astore_congr {P : Program} {t : TypeId} {p v : V} (h : ∀ k ∈ p.ids ++ v.ids, m' k = m k) : astore P m' t p v = astore P m t p v := by
  have e1 : toTs m' (vcells v) = toTs m (vcells v) := toTs_congr fun k hk => h k (by simp [vcells_ids hk])
  have e2 : fzU m' ((vcells v).flatMap fz) = fzU m ((vcells v).flatMap fz) := fzU_congr fun k hk => h k (by simp [vcells_ids (fzs_ids hk)])
  unfold astore
  rw [e1, e2]
  cases p <;> try rfl
  · rename_i k off; simp only [h k (by simp [V.ids])]
  · rename_i k i sz off; simp only [h k (by simp [V.ids])]
theorem aappend_congr {P : Program} {id : Nat} {t : TypeId} {p v : V} (h : ∀ k ∈ p.ids ++ v.ids ++ [id, id + 1000], m' k = m k) : aappend P id m' t p v = aappend P id m t p v := by
  have e1 : toT m' v = toT m v := toT_congr fun k hk => h k (by simp [hk])
  have e2 : fzU m' (fz v) = fzU m (fz v) := fzU_congr fun k hk => h k (by simp [fz_ids hk])
  unfold aappend
  rw [e1, e2, h id (by simp), h (id + 1000) (by simp)]
  cases p <;> try rfl
  rename_i k
  simp only [app_congr _ (h k (by simp [V.ids]))]
end

/-- All objects that an operation may look at or turn. -/
def stT : Op → Option (Operand × Operand)
  | .store _ a x => some (a, x)
  | _ => none
def fpIds (E : Operand → V) (o : Op) : List Nat := match stT o with
  | some (a, _) => match E a with
    | .rf k _ => [k]
    | _ => V.idsL (o.operands.toList.map E)
  | none => V.idsL (o.operands.toList.map E)
def fpOf (id : Nat) (E : Operand → V) (o : Op) : List Nat := fpIds E o ++ [id, id + 1000]
theorem fpIds_congr {E E' : Operand → V} {o : Op} (h : ∀ x ∈ o.operands.toList, E' x = E x) : fpIds E' o = fpIds E o := by
  unfold fpIds
  rw [List.map_congr_left h]
  cases o <;> try rfl
  rename_i t a x
  simp only [stT, h a (by simp [Op.operands])]

theorem fp_mem {id : Nat} {E : Operand → V} {o : Op} {x : Operand} {k : Nat} (hs : stT o = none) (hx : x ∈ o.operands.toList) (hk : k ∈ (E x).ids) : k ∈ fpOf id E o := by
  unfold fpOf fpIds
  rw [hs]
  rw [List.mem_append]
  exact .inl (V.mem_idsL (List.mem_map.2 ⟨x, hx, rfl⟩) hk)

theorem parts_map {E E' : Operand → V} {parts : List (Nat × Operand)} (h : ∀ p ∈ parts, E' p.2 = E p.2) : parts.map (fun p => (p.1, E' p.2)) = parts.map fun p => (p.1, E p.2) :=
  List.map_congr_left fun p hp => by rw [h p hp]

theorem aeff_local {P : Program} {id : Nat} {E E' : Operand → V} {m m' : Nat → Ob} {o : Op} (hE : ∀ x ∈ o.operands.toList, E' x = E x) (hm : ∀ k ∈ fpOf id E o, m' k = m k) : aeff P id E' m' o = aeff P id E m o := by
  have hid : m' id = m id := hm id (by simp [fpOf])
  have hid2 : m' (id + 1000) = m (id + 1000) := hm (id + 1000) (by simp [fpOf])
  by_cases hst : stT o = none
  case neg =>
    cases o <;> try (exact absurd rfl hst)
    rename_i t a x
    simp only [aeff, hE a (by simp [Op.operands]), hE x (by simp [Op.operands])]
    have e1 : astore P m' t (E a) (E x) = astore P m t (E a) (E x) := by
      by_cases hr : ∃ k off, E a = .rf k off
      · obtain ⟨k, off, hr⟩ := hr
        have hmk : m' k = m k := hm k (by simp [fpOf, fpIds, stT, hr])
        rw [hr]; unfold astore; simp only [hmk]
      · have hfp : fpOf id E (.store t a x) = V.idsL ((Op.store t a x).operands.toList.map E) ++ [id, id + 1000] := by
          unfold fpOf fpIds
          simp only [stT]
          split
          · rename_i k off he; exact absurd ⟨k, off, he⟩ hr
          · rfl
        have hk : ∀ y ∈ (Op.store t a x).operands.toList, ∀ k ∈ (E y).ids, m' k = m k := fun y hy k hk => hm k (by rw [hfp, List.mem_append]; exact .inl (V.mem_idsL (List.mem_map.2 ⟨y, hy, rfl⟩) hk))
        exact astore_congr fun k hkk => by
          rw [List.mem_append] at hkk; exact hkk.elim (hk a (by simp [Op.operands]) k) (hk x (by simp [Op.operands]) k)
    rw [e1]
  have hk : ∀ x ∈ o.operands.toList, ∀ k ∈ (E x).ids, m' k = m k := fun x hx k hk => hm k (fp_mem hst hx hk)
  cases o <;> try rfl
  case move x => simp only [aeff, hE x (by simp [Op.operands])]
  case assign x => simp only [aeff, hE x (by simp [Op.operands])]
  case pick c a b => simp only [aeff, hE c (by simp [Op.operands]), hE a (by simp [Op.operands]), hE b (by simp [Op.operands])]
  case alloc t => simp only [aeff, hid]
  case box t x => simp only [aeff, hid, hE x (by simp [Op.operands])]
  case build t parts =>
    simp only [aeff]
    rw [parts_map fun p hp => hE p.2 (by simp [Op.operands]; exact ⟨p.1, by simpa using hp⟩)]
  case buildSlice t n parts =>
    have e0 : (parts.toList.map fun p => (p.1, E' p.2)) = parts.toList.map fun p => (p.1, E p.2) := parts_map fun p hp => hE p.2 (by simp [Op.operands]; exact ⟨p.1, by simpa using hp⟩)
    simp only [aeff]
    rw [e0]
    have hall : ∀ p ∈ parts.toList.map (fun p => (p.1, E p.2)), ∀ k ∈ p.2.ids, m' k = m k := by
      intro p hp k hkk
      simp only [List.mem_map] at hp
      obtain ⟨q, hq, rfl⟩ := hp
      exact hk q.2 (by simp [Op.operands]; exact ⟨q.1, by simpa using hq⟩) k hkk
    have e1 : fzU m' ((parts.toList.map fun p => (p.1, E p.2)).flatMap fun p => (vcells p.2).flatMap fz) = fzU m ((parts.toList.map fun p => (p.1, E p.2)).flatMap fun p => (vcells p.2).flatMap fz) := fzU_congr fun k hkk => by
      rw [List.mem_flatMap] at hkk
      obtain ⟨p, hp, hkp⟩ := hkk
      exact hall p hp k (vcells_ids (fzs_ids hkp))
    unfold abuildSlice
    rw [e1, hid]
    simp only [arows_congr hall]
  case load t a =>
    simp only [aeff, hE a (by simp [Op.operands])]
    rw [cellsAt_congr (hk a (by simp [Op.operands]))]
  case store t a x => cases hst
  case nilCheck x => simp only [aeff, hE x (by simp [Op.operands])]
  case binOp op xt x y yt => simp only [aeff, hE x (by simp [Op.operands]), hE y (by simp [Op.operands])]
  case unOp op xt x => simp only [aeff, hE x (by simp [Op.operands])]
  case convert src dst x =>
    simp only [aeff, hE x (by simp [Op.operands])]
    have h1 := hk x (by simp [Op.operands])
    unfold aconvert
    rw [toT_congr h1, fzU_congr fun k hkk => h1 k (fz_ids hkk)]
  case makeFunc fn first captured =>
    cases fn <;> try rfl
    simp only [aeff]
    rw [List.map_congr_left fun x hx => hE x (by simp [Op.operands]; right; simpa using hx)]
  case makeSlice t x y => simp only [aeff, hE x (by simp [Op.operands]), hE y (by simp [Op.operands])]; unfold amake; rw [hid]
  case slice t x lo hi mx =>
    cases mx with
    | some mx =>
      cases lo with
      | some _ => rfl
      | none =>
        cases hi with
        | none => rfl
        | some hi =>
          have h1 := hk x (by simp [Op.operands])
          simp only [aeff, hE x (by simp [Op.operands]), hE hi (by simp [Op.operands]), hE mx (by simp [Op.operands]), lenV_congr h1]
    | none =>
      simp only [aeff, hE x (by simp [Op.operands])]
      have h1 := hk x (by simp [Op.operands])
      have e1 : lo.map E' = lo.map E := by cases lo <;> simp; rename_i y; exact hE y (by simp [Op.operands])
      have e2 : hi.map E' = hi.map E := by cases hi <;> simp; rename_i y; exact hE y (by simp [Op.operands])
      rw [e1, e2]
      unfold aslice
      rw [toT_congr h1, fzU_congr fun k hkk => h1 k (fz_ids hkk)]
  case fieldAddr s x f => simp only [aeff, hE x (by simp [Op.operands])]
  case field s x f => simp only [aeff, hE x (by simp [Op.operands])]
  case indexAddr t x i =>
    simp only [aeff, hE x (by simp [Op.operands]), hE i (by simp [Op.operands])]
    simp only [indexP_congr (hk x (by simp [Op.operands]))]
  case index t x i => simp only [aeff, hE x (by simp [Op.operands]), hE i (by simp [Op.operands])]
  case extract x i => simp only [aeff, hE x (by simp [Op.operands])]
  case call c =>
    simp only [aeff]
    split
    · rename_i b hb
      have hargs : ∀ x ∈ c.args.toList, x ∈ (Op.call c).operands.toList := fun x hx => by simp [Op.operands, Call.operands, hb]; simpa using hx
      unfold acall
      split
      · rename_i x t hx _
        have h1 := hargs x (by rw [hx]; simp)
        rw [hE x h1, lenV_congr (hk x h1)]
      · rename_i x y t t' hxy _
        have h1 := hargs x (by rw [hxy]; simp)
        have h2 := hargs y (by rw [hxy]; simp)
        rw [hE x h1, hE y h2, aappend_congr fun k hkk => by
          simp only [List.mem_append, List.mem_cons, List.not_mem_nil, or_false] at hkk
          rcases hkk with (hkk | hkk) | rfl | rfl
          · exact hk x h1 k hkk
          · exact hk y h2 k hkk
          · exact hid
          · exact hid2]
      · rfl
    · rfl
end Go.Abs
