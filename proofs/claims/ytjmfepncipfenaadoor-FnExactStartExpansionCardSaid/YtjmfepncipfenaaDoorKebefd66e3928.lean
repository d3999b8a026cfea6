/- A part of the proof: what the functions that the law calls answer, as pure values. -/
import Derived.Below
import Derived.Carry
import Derived.ChangeOld
import Derived.OpenShut
import Derived.ProofKit
import Derived.ShutString
import Derived.SizedLaws
import Derived.Test.YtjmfepncipfenaaDoorK99261d7d1745
import Derived.WalkKit
set_option linter.unusedSimpArgs false
set_option linter.unusedVariables false
section
set_option linter.unusedSimpArgs false
set_option linter.unusedVariables false
namespace Go.Abs
open Go.RowKit
def G0 (w : World) : Im := fun b => match w.heap[b]? with
  | some (.cells c _ _) => some c.toList
  | _ => none
theorem G0_ok (w : World) : Gok (G0 w) w := fun b cs h => by
  unfold G0 at h
  split at h
  · rename_i c e fr hw
    cases h
    exact ⟨c, e, fr, hw, [], by simp⟩
  · cases h
theorem G0_cell {w : World} {a : Addr} {x : Value} (h : w.cell? a = some x) : a.spot = none ∧ ∃ cs, G0 w a.block = some cs ∧ cs[a.off]? = some x := by
  unfold World.cell? at h
  split at h
  · rename_i c e fr hw
    split at h
    · cases h
    · rename_i hs
      refine ⟨by cases hh : a.spot <;> simp_all, c.toList, by unfold G0; rw [hw], by simpa using h⟩
  · cases h
section
variable {H : Type} {enc : TypeId × Value → H} {P : Program} {w : World} {base : Nat} {spare : Nat → Bool} {held : Bool}
theorem add_off (a : Addr) (i : Nat) (h : a.spot = none) : a.add i = ⟨a.block, a.off + i, none⟩ := by
  obtain ⟨b, o, s⟩ := a
  simp at h; subst h
  exact Addr.add_lit b o i
theorem szOf_cells {t : TypeId} {n : Nat} (h : szOf P t = some n) : P.cellsOf t = n := by
  unfold szOf at h; unfold Program.cellsOf; rw [h]; rfl
theorem trod_field {fuel : Nat} {t ft : TypeId} {i off k : Nat} {cs : List Value} {x : DataW H × List MemPlace} (hf : fldOf P t i = some (off, ft)) (hk : szOf P ft = some k) (h : DataW.trod enc P w base spare held fuel t cs = some x) :
    ∃ n y, n < fuel ∧ DataW.trod enc P w base spare held n ft ((cs.drop off).take k) = some y := by
  obtain ⟨fields, fd, m, hu, hfd, hs, rfl, rfl⟩ := fldOf_spec hf
  obtain ⟨xs, n, rfl, _, _, hl, hx⟩ := DataW.trod_struct hu h
  have := hx i fd hfd
  rw [szOf_cells hk] at this
  have hi : i < xs.length := by
    rw [hl]; exact (Array.getElem?_eq_some_iff.1 hfd).1
  rw [List.getElem?_eq_getElem hi] at this
  exact ⟨n, _, by omega, this⟩
theorem trod_len {fuel : Nat} {t ft : TypeId} {i off k : Nat} {cs : List Value} {x : DataW H × List MemPlace} (hf : fldOf P t i = some (off, ft)) (hk : szOf P t = some k) (h : DataW.trod enc P w base spare held fuel t cs = some x) : cs.length = k := by
  obtain ⟨fields, fd, m, hu, hfd, hs, rfl, rfl⟩ := fldOf_spec hf
  obtain ⟨xs, n, _, _, hl, _⟩ := DataW.trod_struct hu h
  rw [hl, szOf_cells hk]
theorem trod_i {fuel : Nat} {t : TypeId} {k : IntKind} {cs : List Value} {x : DataW H × List MemPlace} (ht : P.underlying t = some (.int k)) (h : DataW.trod enc P w base spare held fuel t cs = some x) : ∃ n, T.Cells (G0 w) [.sc (.int k n)] cs ∧ T.ok (.sc (.int k n)) ∧ cs = [.int k n] := by
  obtain ⟨n, rfl, _, hw⟩ := DataW.trod_int ht h
  exact ⟨n, by simp [T.Cells, T.Is, S.v], hw, rfl⟩
theorem trod_s {fuel : Nat} {t : TypeId} {cs : List Value} {x : DataW H × List MemPlace} (ht : P.underlying t = some .string) (h : DataW.trod enc P w base spare held fuel t cs = some x) : ∃ s, T.Cells (G0 w) [.sc (.str s)] cs ∧ T.ok (.sc (.str s)) ∧ cs = [.string s] := by
  obtain ⟨s, rfl, _, hw⟩ := DataW.trod_string ht h
  exact ⟨s, by simp [T.Cells, T.Is, S.v], hw, rfl⟩
theorem trod_l {α : Type} (row : α → List T) {sz fuel : Nat} {t e : TypeId} {cs : List Value} {x : DataW H × List MemPlace} (ht : P.underlying t = some (.slice e)) (hc : szOf P e = some (sz + 1))
    (he : ∀ n cs' y, n < fuel → DataW.trod enc P w base spare held n e cs' = some y → ∃ a, T.Cells (G0 w) (row a) cs' ∧ (row a).length = sz + 1 ∧ T.okL (row a)) (h : DataW.trod enc P w base spare held fuel t cs = some x) :
    ∃ (l : List α) (c : Value), cs = [c] ∧ T.Is (G0 w) (.sl (l.map row)) c ∧ T.ok (.sl (l.map row)) := by
  rcases DataW.trod_slice ht h with ⟨rfl, _⟩ | ⟨a, len, cap, elems, rest, n, rfl, rfl, _, hb, hlc, hcap, hel, hx, _⟩
  · exact ⟨[], _, rfl, by rw [T.Is]; exact ⟨none, 0, 0, rfl, by simp, Nat.zero_le _, .inl (by simp)⟩, by simp [T.ok, T.okR]⟩
  · have key : ∀ i : _root_.Fin len, ∃ (a' : α), (∃ cs', w.cells? base (a.add (i.1 * (sz + 1))) (sz + 1) = some cs' ∧ T.Cells (G0 w) (row a') cs') ∧ (row a').length = sz + 1 ∧ T.okL (row a') := by
      rintro ⟨i, hi⟩
      have := hx i hi
      rw [szOf_cells hc, List.getElem?_eq_getElem (by omega)] at this
      obtain ⟨cs', h1, h2⟩ := Option.bind_eq_some_iff.1 this
      obtain ⟨a', h3, h4, h5⟩ := he n cs' _ (by omega) h2
      exact ⟨a', ⟨cs', h1, h3⟩, h4, h5⟩
    obtain ⟨f, hf⟩ := Classical.axiomOfChoice key
    refine ⟨List.ofFn f, _, rfl, ?_, ?_⟩
    · rw [T.Is]
      refine ⟨some a, cap, sz + 1, by simp, by simpa using hlc, hcap, ?_⟩
      rcases Nat.eq_zero_or_pos len with h0 | h0
      · left; subst h0; simp
      · right
        obtain ⟨⟨cs0, h1, _⟩, _⟩ := hf ⟨0, h0⟩
        obtain ⟨_, hl0, hc0⟩ := World.cells?_some h1
        have h00 := hc0 0 (by omega)
        simp only [Nat.zero_mul] at h00
        have ha0 : (a.add 0).add 0 = a := by simp [Addr.add]
        rw [ha0, List.getElem?_eq_getElem (by omega)] at h00
        obtain ⟨hsp, cs, hG, _⟩ := G0_cell h00
        refine ⟨a.block, a.off, cs, by obtain ⟨b, o, s⟩ := a; simp at hsp; subst hsp; rfl, hG, T.Rows.of_get fun i r hr => ?_⟩
        simp only [List.getElem?_map, List.getElem?_ofFn] at hr
        split at hr
        · rename_i hi
          simp at hr
          subst hr
          obtain ⟨⟨cs', h1, h2⟩, h3, _⟩ := hf ⟨i, hi⟩
          refine ⟨h3, T.Cells.mono (Gle.refl _) _ _ _ ?_ h2⟩
          obtain ⟨_, hl', hc'⟩ := World.cells?_some h1
          intro j c hj
          have hjl : j < sz + 1 := by
            have := (List.getElem?_eq_some_iff.1 hj).1
            omega
          have hcell := hc' j hjl
          rw [hj] at hcell
          rw [add_off a _ hsp] at hcell
          rw [add_off _ _ rfl] at hcell
          obtain ⟨_, cs2, hG2, hx2⟩ := G0_cell hcell
          rw [hG] at hG2
          cases hG2
          rw [List.drop_drop, List.getElem?_drop, ← hx2]
        · simp at hr
    · rw [T.ok]
      refine ⟨by simp; exact Nat.le_trans hlc hcap, ?_⟩
      have : ∀ l : List (List T), (∀ r ∈ l, T.okL r) → T.okR l := by
        intro l hl
        induction l with
        | nil => rw [T.okR]; trivial
        | cons r l ih => rw [T.okR]; exact ⟨hl r (by simp), ih fun r hr => hl r (by simp [hr])⟩
      refine this _ fun r hr => ?_
      simp only [List.mem_map, List.mem_ofFn] at hr
      obtain ⟨a', ⟨i, rfl⟩, rfl⟩ := hr
      exact (hf i).2.2
theorem trod_is {fuel : Nat} {t e : TypeId} {cs : List Value} {x : DataW H × List MemPlace} (ht : P.underlying t = some (.slice e)) (he : P.underlying e = some (.int .i64)) (hc : szOf P e = some 1) (h : DataW.trod enc P w base spare held fuel t cs = some x) :
    ∃ (l : List Int) (c : Value), cs = [c] ∧ T.Is (G0 w) (ints64 l) c ∧ T.ok (ints64 l) :=
  trod_l (fun n => [ti n]) (sz := 0) ht hc (fun n cs' y _ h => by
    obtain ⟨k, h1, h2, _⟩ := trod_i he h
    exact ⟨k, h1, rfl, by simp only [T.okL]; exact ⟨h2, trivial⟩⟩) h
theorem cells_cons {G : Im} {t : T} {ts : List T} {c : Value} {cs : List Value} (h : T.Is G t c) (hs : T.Cells G ts cs) : T.Cells G (t :: ts) (c :: cs) := by
  rw [T.Cells]; exact ⟨⟨c, by simp, h⟩, by simpa using hs⟩
theorem cells_app {G : Im} : ∀ {a b : List T} {ca cb : List Value}, T.Cells G a ca → ca.length = a.length → T.Cells G b cb → T.Cells G (a ++ b) (ca ++ cb)
  | [], b, [], cb, _, _, h => h
  | [], b, c :: ca, cb, _, hl, _ => by simp at hl
  | t :: a, b, [], cb, _, hl, _ => by simp at hl
  | t :: a, b, c :: ca, cb, h, hl, hb => by
    rw [T.Cells] at h
    obtain ⟨⟨c', hc, hi⟩, h⟩ := h
    simp at hc; subst hc
    exact cells_cons hi (cells_app (by simpa using h) (by simpa using hl) hb)
theorem cells_nil {G : Im} : T.Cells G [] [] := by rw [T.Cells]; trivial
theorem okL_cons {t : T} {ts : List T} (h : t.ok) (hs : T.okL ts) : T.okL (t :: ts) := by rw [T.okL]; exact ⟨h, hs⟩
theorem okL_nil : T.okL [] := by rw [T.okL]; trivial
theorem okL_app : ∀ {a b : List T}, T.okL a → T.okL b → T.okL (a ++ b)
  | [], _, _, h => h
  | t :: a, b, h, hb => by rw [List.cons_append, T.okL]; rw [T.okL] at h; exact ⟨h.1, okL_app h.2 hb⟩
theorem mem_start (w : World) (ht : TabW P w) : Mem P ⟨w, G0 w, fun _ => False, fun _ => none⟩ noOb w (G0 w) (fun _ => none) :=
  ⟨⟨⟨ht, fun _ _ _ _ _ h => h⟩, Gle.refl _⟩, fun _ _ _ => rfl, G0_ok w, Keeps.refl _ _, fun _ _ h => by simp at h, fun _ => by simp [noOb], fun _ _ _ _ _ h => by simp at h, fun _ _ _ h => by simp at h, fun _ _ h => by simp at h, fun _ _ h => by simp at h⟩
theorem Keeps.below {w w' : World} (h : Keeps (fun _ => False) w w') : Below w.heap.size w w' := ⟨h.os, h.tape, h.output, h.size, fun k hk => h.block k hk (fun h => h)⟩
theorem AC.law {f : FuncId} {args : List V} {xs : List Value} {w : World} (ht : TabW P w) (h : AC P f args noOb (vb true) noOb) (hx : V.IsL (G0 w) (fun _ => none) args xs) : Calls P f xs.toArray w fun e w' => e = .returned (.bool true) ∧ Below w.heap.size w w' := by
  refine (h.2 w (G0 w) _ (fun _ => False) xs (mem_start w ht) hx).mono ?_
  rintro e w' ⟨x, G', X', rfl, hM, hr⟩
  rw [V.Is, T.Is] at hr
  exact ⟨by rw [hr]; rfl, hM.keeps.below⟩
theorem row_isL {G : Im} {X : Xm} : ∀ {ts : List T} {cs : List Value}, T.Cells G ts cs → cs.length = ts.length → V.IsL G X (ts.map .t) cs
  | [], cs, _, hl => by rw [List.map_nil, V.IsL]; exact List.eq_nil_of_length_eq_zero hl
  | t :: ts, [], _, hl => by simp at hl
  | t :: ts, c :: cs, h, hl => by
    rw [T.Cells] at h
    obtain ⟨⟨c', hc, hi⟩, h⟩ := h
    simp at hc; subst hc
    rw [List.map_cons, V.IsL]
    exact ⟨_, _, rfl, by rw [V.Is]; exact hi, row_isL (by simpa using h) (by simpa using hl)⟩
theorem okWide_agg {W : World} {base : Nat} {t : TypeId} {v : Value} (ha : aggOf P t = some true) (h : Value.okWide P W .any base t v) : ∃ cs, v = .agg cs := by
  unfold aggOf at ha
  unfold Value.okWide at h
  split at h
  · obtain ⟨cs, rfl, _⟩ := h; exact ⟨cs, rfl⟩
  · obtain ⟨cs, rfl, _⟩ := h; exact ⟨cs, rfl⟩
  · rename_i h1 h2
    cases hu : P.underlying t with
    | none => rw [hu] at ha; cases ha
    | some d =>
      rw [hu] at ha
      cases d <;> simp_all
end
end Go.Abs
end
section
set_option linter.unusedSimpArgs false
set_option linter.unusedVariables false
namespace Go.Abs
mutual
theorem V.Is.dom {G : Im} {X : Xm} : ∀ (v : V) (x : Value), V.Is G X v x → ∀ k ∈ v.ids, X k ≠ none
  | .t y, x, _, k, hk => by simp [V.ids] at hk
  | .nl, x, _, k, hk => by simp [V.ids] at hk
  | .pe cs, x, _, k, hk => by simp [V.ids] at hk
  | .rf j off, x, h, k, hk => by
    rw [V.Is] at h; rw [V.ids] at hk
    obtain ⟨b, h, _⟩ := h
    simp at hk; subst hk; rw [h]; simp
  | .re j i sz off, x, h, k, hk => by
    rw [V.Is] at h; rw [V.ids] at hk
    obtain ⟨b, n, c, h, _⟩ := h
    simp at hk; subst hk; rw [h]; simp
  | .ar j, x, h, k, hk => by
    rw [V.Is] at h; rw [V.ids] at hk
    simp at hk; subst hk; rw [h]; simp
  | .ag cs, x, h, k, hk => by
    rw [V.Is] at h; rw [V.ids] at hk
    obtain ⟨xs, _, h⟩ := h
    exact V.IsL.dom cs _ h k hk
  | .tp cs, x, h, k, hk => by
    rw [V.Is] at h; rw [V.ids] at hk
    obtain ⟨xs, _, h⟩ := h
    exact V.IsL.dom cs _ h k hk
  | .fn f cs, x, h, k, hk => by
    rw [V.Is] at h; rw [V.ids] at hk
    obtain ⟨xs, _, h⟩ := h
    exact V.IsL.dom cs _ h k hk
  | .jk, x, _, k, hk => by simp [V.ids] at hk
  | .ze, x, _, k, hk => by simp [V.ids] at hk
  | .sn _ _, x, _, k, hk => by simp [V.ids] at hk
theorem V.IsL.dom {G : Im} {X : Xm} : ∀ (vs : List V) (xs : List Value), V.IsL G X vs xs → ∀ k ∈ V.idsL vs, X k ≠ none
  | [], xs, _, k, hk => by rw [V.idsL] at hk; cases hk
  | v :: vs, xs, h, k, hk => by
    rw [V.IsL] at h; rw [V.idsL] at hk
    obtain ⟨y, ys, _, h1, h2⟩ := h
    rcases List.mem_append.1 hk with hk | hk
    · exact V.Is.dom v y h1 k hk
    · exact V.IsL.dom vs ys h2 k hk
end
def frame {α : Type} (asg : List Nat) (f g : Nat → α) : Nat → α := fun i => bif asg.elem i then f i else g i
theorem frame_at {α : Type} (asg : List Nat) (f g : Nat → α) (i : Nat) : frame asg f g i = bif asg.elem i then f i else g i := rfl
def Off {α : Type} (asg : List Nat) (f g : Nat → α) : Prop := ∀ i, asg.elem i = false → f i = g i
theorem off_refl {α : Type} (asg : List Nat) (f : Nat → α) : Off asg f f := fun _ _ => rfl
theorem off_frame {α : Type} (asg : List Nat) (f g : Nat → α) : Off asg (frame asg f g) g := fun i hi => by rw [frame_at, hi]; rfl
theorem off_sub {α : Type} {a b : List Nat} {f g h : Nat → α} (hs : a.all (fun i => b.elem i) = true) (hg : Off b g h) : Off b (frame a f g) h := fun i hi => by
  rw [frame_at]
  cases he : a.elem i with
  | true =>
    rw [List.all_eq_true] at hs
    have := hs i (by simpa using he)
    rw [hi] at this; cases this
  | false => exact hg i hi
theorem off_upd {α : Type} {asg : List Nat} {f g : Nat → α} {k : Nat} {v : α} (hk : asg.elem k = true) (h : Off asg f g) : Off asg (upd f k v) g := fun i hi => by
  unfold upd
  rw [if_neg (fun e => by subst e; rw [hk] at hi; cases hi)]
  exact h i hi
theorem off_same {α : Type} {asg : List Nat} {f g : Nat → α} {k : Nat} {v : α} (hk : v = f k) (h : Off asg f g) : Off asg (upd f k v) g := fun i hi => by
  unfold upd
  by_cases e : i = k
  · subst e; rw [if_pos rfl, hk]; exact h i hi
  · rw [if_neg e]; exact h i hi
def okId (och gar : List Nat) (k : Nat) : Bool := och.elem k || !gar.elem k
def HasR (s : Nat → V) (och gar : List Nat) (q : Nat → Nat) : List (Nat × V) → Prop
  | [] => True
  | (i, v) :: r => (s i = v.ren q ∧ v.ids.all (okId och gar) = true) ∧ HasR s och gar q r
def HasQ (m : Nat → Ob) (och gar : List Nat) (q : Nat → Nat) : List (Nat × Ob) → Prop
  | [] => True
  | (i, o) :: r => (m (q i) = o.ren q ∧ o.ids.all (okId och gar) = true) ∧ HasQ m och gar q r
theorem hasR_spec {s : Nat → V} {och gar : List Nat} {q : Nat → Nat} : ∀ {l : List (Nat × V)}, HasR s och gar q l → ∀ i, slots l i = .jk ∨ (s i = (slots l i).ren q ∧ (slots l i).ids.all (okId och gar) = true)
  | [], _, i => .inl rfl
  | (j, v) :: r, h, i => by
    rw [slots_cons]
    by_cases hij : i = j
    · subst hij; rw [if_pos rfl]; exact .inr h.1
    · rw [if_neg hij]; exact hasR_spec h.2 i
theorem hasQ_spec {m : Nat → Ob} {och gar : List Nat} {q : Nat → Nat} : ∀ {l : List (Nat × Ob)}, HasQ m och gar q l → ∀ i, i ∈ l.map (·.1) → m (q i) = (objs l i).ren q ∧ (objs l i).ids.all (okId och gar) = true
  | [], _, i => fun h => by simp at h
  | (j, v) :: r, h, i => by
    rw [objs_cons]
    by_cases hij : i = j
    · subst hij; rw [if_pos rfl]; exact fun _ => h.1
    · rw [if_neg hij]
      exact fun hm => hasQ_spec h.2 i (by simp [hij] at hm; simpa using hm)
def HasF (s : Nat → V) (l : List (Nat × V)) : Prop := ∀ p ∈ l, s p.1 = p.2
def HasO (m : Nat → Ob) (l : List (Nat × Ob)) : Prop := ∀ p ∈ l, m p.1 = p.2
theorem hasF_spec {s : Nat → V} {l : List (Nat × V)} (h : HasF s l) (i : Nat) : slots l i = .jk ∨ slots l i = s i := by
  induction l with
  | nil => exact .inl rfl
  | cons p l ih =>
    obtain ⟨j, v⟩ := p
    rw [slots_cons]
    by_cases hij : i = j
    · subst hij; rw [if_pos rfl]; exact .inr (h (i, v) (by simp)).symm
    · rw [if_neg hij]; exact ih (fun p hp => h p (by simp [hp]))
theorem hasO_spec {m : Nat → Ob} {l : List (Nat × Ob)} (h : HasO m l) (i : Nat) (hi : i ∈ l.map (·.1)) : objs l i = m i := by
  induction l with
  | nil => simp at hi
  | cons p l ih =>
    obtain ⟨j, v⟩ := p
    rw [objs_cons]
    by_cases hij : i = j
    · subst hij; rw [if_pos rfl]; exact (h (i, v) (by simp)).symm
    · rw [if_neg hij]; exact ih (fun p hp => h p (by simp [hp])) (by simp [hij] at hi; simpa using hi)
section
variable {P : Program} {C : Cx} {n : Nat} {Q : Exit → St → Prop} {s : Nat → V} {m : Nat → Ob}
def okR (R : List (Nat × Nat)) (och gar : List Nat) (m : Nat → Ob) : Bool :=
  R.all (fun p => och.elem p.1 && isNo (m p.1)) && (och.map (qOf R)).all (fun k => (och ++ gar).elem k) && decide ((och.map (qOf R)).Nodup)
def Round {α : Type} (asg och gar : List Nat) (μ : α → Nat) (sl : α → List (Nat × V)) (ob : α → List (Nat × Ob)) (Inv : α → Prop) (s : Nat → V) (m : Nat → Ob) (a : α) (Q : Exit → St → Prop) : Exit → St → Prop
  | .normal, st => ∃ a' R, okR R och gar m = true ∧ Inv a' ∧ μ a' < μ a ∧ Off asg st.s s ∧ Off (och ++ gar) st.m m ∧ HasR st.s och gar (qOf R) (sl a') ∧ HasQ st.m och gar (qOf R) (ob a')
  | e, st => Q e st
theorem nodup_inj {f : Nat → Nat} : ∀ {l : List Nat}, (l.map f).Nodup → ∀ {a b : Nat}, a ∈ l → b ∈ l → f a = f b → a = b
  | [], _, a, b, ha, _, _ => by cases ha
  | x :: l, h, a, b, ha, hb, he => by
    rw [List.map_cons, List.nodup_cons] at h
    rcases List.mem_cons.1 ha with ha' | ha <;> rcases List.mem_cons.1 hb with hb' | hb
    · rw [ha', hb']
    · exact absurd (List.mem_map.2 ⟨b, hb, by rw [← he, ha']⟩) h.1
    · exact absurd (List.mem_map.2 ⟨a, ha, by rw [he, hb']⟩) h.1
    · exact nodup_inj h.2 ha hb he
mutual
theorem V.ren_congr {q : Nat → Nat} : ∀ (v : V), (∀ j ∈ v.ids, q j = j) → v.ren q = v
  | .rf _ _, h => by rw [V.ren, h _ (by simp [V.ids])]
  | .re _ _ _ _, h => by rw [V.ren, h _ (by simp [V.ids])]
  | .ar _, h => by rw [V.ren, h _ (by simp [V.ids])]
  | .t _, _ => rfl
  | .nl, _ => rfl
  | .pe _, _ => rfl
  | .jk, _ => rfl
  | .ze, _ => rfl
  | .sn _ _, _ => rfl
  | .ag cs, h => by rw [V.ids] at h; rw [V.ren, V.renL_congr cs h]
  | .tp cs, h => by rw [V.ids] at h; rw [V.ren, V.renL_congr cs h]
  | .fn f cs, h => by rw [V.ids] at h; rw [V.ren, V.renL_congr cs h]
theorem V.renL_congr {q : Nat → Nat} : ∀ (vs : List V), (∀ j ∈ V.idsL vs, q j = j) → V.renL q vs = vs
  | [], _ => rfl
  | v :: vs, h => by
    rw [V.idsL] at h
    rw [V.renL, V.ren_congr v (fun j hj => h j (by simp [hj])), V.renL_congr vs (fun j hj => h j (by simp [hj]))]
end
theorem qOf_off : ∀ {R : List (Nat × Nat)} {k : Nat}, (∀ p ∈ R, p.1 ≠ k) → qOf R k = k
  | [], _, _ => rfl
  | (a, b) :: r, k, h => by
    unfold qOf
    rw [if_neg (fun e => h (a, b) (by simp) e.symm)]
    exact qOf_off (fun p hp => h p (by simp [hp]))
theorem Ob.Ok_unren {G : Im} {X Y : Xm} {w : World} {o : Ob} {x : Value} {q : Nat → Nat} (hq : ∀ k ∈ o.ids, ∀ y, Y (q k) = some y → X k = some y) (h : Ob.Ok P G Y w (o.ren q) x) : Ob.Ok P G X w o x := by
  cases o with
  | box cs =>
    obtain ⟨b, cur, e, h1, h2, h3, h4⟩ := h
    exact ⟨b, cur, e, h1, h2, V.IsL.unren cs _ hq h3, h4⟩
  | no => trivial
  | dead => trivial
  | dah es e hs =>
    obtain ⟨h1, h2, h0⟩ := h
    refine ⟨h1, h2, fun z hz => ?_⟩
    obtain ⟨a, n, c, inf, y, h3, h4, h5, h6⟩ := h0 _ (List.mem_map_of_mem hz)
    exact ⟨a, n, c, inf, y, h3, h4, hq z.2.2 (List.mem_map_of_mem (f := fun h : Nat × Nat × Nat => h.2.2) hz) y h5, h6⟩
  | arr es e md => exact h
  | ro es => exact h
  | dar es e => exact h
  | mp f => exact h
  | mpx bm es clock => exact h
  | it mo si seen c0 => exact h
theorem awp_frame {α : Type} {c : Code} (asg och gar : List Nat) (μ : α → Nat) (sl : α → List (Nat × V)) (ob : α → List (Nat × Ob)) (Inv : α → Prop) (a0 : α) (h0 : Inv a0)
    (hga : gar.all (fun k => isNo (m k)) = true) (hdis : och.all (fun k => !gar.elem k) = true) (hoc : ∀ a, (ob a).map (·.1) = och) (hs : HasF s (sl a0)) (ho : HasO m (ob a0))
    (round : ∀ a, Inv a → AWP P C n c (Round asg och gar μ sl ob Inv s m a Q) ⟨frame asg (slots (sl a)) s, frame och (objs (ob a)) m⟩) : AWP P C n (.loop c) Q ⟨s, m⟩ := by
  rintro a w ⟨G, X, hM, hd, hsz, ht⟩
  have hgar : ∀ k, gar.elem k = true → m k = .no := fun k hk => by
    rw [List.all_eq_true] at hga
    exact isNo_eq (hga k (by simpa using hk))
  replace hM : Mem P C m w G X := hM
  replace ht : ∀ t, t < n → V.Is G X (s t) (a.eval (.tmp t)) := ht
  have hdis' : ∀ k, och.elem k = true → gar.elem k = false := fun k hk => by
    rw [List.all_eq_true] at hdis
    have := hdis k (by simpa using hk)
    simpa using this
  have f1 : ∀ i, i < n → ∀ k ∈ (s i).ids, m k ≠ .no := fun i hi k hk hn => V.Is.dom _ _ (ht i hi) k hk ((hM.free k).2 hn)
  have f2 : ∀ k, ∀ j ∈ (m k).ids, m j ≠ .no := fun k j hj hn => by
    have hn := (hM.free j).2 hn
    cases hX : X k with
    | none => rw [(hM.free k).1 hX] at hj; cases hj
    | some x =>
      have hok := hM.ob k x hX
      cases hmk : m k with
      | box cs =>
        rw [hmk] at hok hj
        obtain ⟨b, cur, e, _, _, h3, _⟩ := hok
        exact absurd hn (V.IsL.dom _ _ h3 j hj)
      | dah es e hs =>
        rw [hmk] at hok hj
        obtain ⟨_, _, h0⟩ := hok
        rw [Ob.ids] at hj
        obtain ⟨z, hz, rfl⟩ := List.mem_map.1 hj
        obtain ⟨a, n, c, inf, y, _, _, h5, _⟩ := h0 z hz
        rw [h5] at hn; cases hn
      | _ => rw [hmk] at hj; cases hj
  have f3 : ∀ k, C.X0 k ≠ none → m k ≠ .no := fun k hk hn => by
    have hn := (hM.free k).2 hn
    cases hx : C.X0 k with
    | none => exact absurd hx hk
    | some x => rw [hM.old k x hx] at hn; cases hn
  refine wp_loop_ghost (fun k a w => ∃ b, Inv b ∧ μ b = k ∧ Rel P C n ⟨frame asg (slots (sl b)) s, frame och (objs (ob b)) m⟩ a w) (μ a0) ⟨a0, h0, rfl, G, X, ?_, hd, hsz, ?_⟩ ?_
  · have e : frame och (objs (ob a0)) m = m := by
      funext k
      rw [frame_at]
      cases hk : och.elem k with
      | false => rfl
      | true => exact hasO_spec ho k (by rw [hoc]; simpa using hk)
    simp only; rw [e]; exact hM
  · intro t htn
    simp only [frame_at]
    cases hk : asg.elem t with
    | false => exact ht t htn
    | true =>
      rcases hasF_spec hs t with h | h
      · simp only [cond_true]; rw [h, V.Is]; trivial
      · simp only [cond_true]; rw [h]; exact ht t htn
  · rintro k a' w' ⟨b, hb, rfl, hR⟩
    refine wp_mono (round b hb a' w' hR) ?_
    rintro e a2 w2 ⟨st', hq, hR'⟩
    cases e with
    | normal =>
      obtain ⟨b', R, hok, hb', hlt, o1, o2, h3, h4⟩ := hq
      refine ⟨μ b', hlt, b', hb', rfl, ?_⟩
      obtain ⟨G', X', hM', hd', hsz', ht'⟩ := hR'
      simp only [okR, Bool.and_eq_true, List.all_eq_true, decide_eq_true_eq] at hok
      obtain ⟨⟨hR1, hR2⟩, hR3⟩ := hok
      have hin : ∀ k, och.elem k = true → (och ++ gar).elem (qOf R k) = true := fun k hk => hR2 _ (List.mem_map_of_mem (by simpa using hk))
      have hinj : ∀ k k', och.elem k = true → och.elem k' = true → qOf R k = qOf R k' → k = k' := fun k k' hk hk' he => by
        simp at hk hk'
        exact nodup_inj hR3 hk hk' he
      have hfix : ∀ k, m k ≠ .no → qOf R k = k := fun k hk => qOf_off (fun p hp e => hk (by
        have := hR1 p hp
        rw [← e]; exact isNo_eq this.2))
      have hfix2 : ∀ k, och.elem k = false → qOf R k = k := fun k hk => qOf_off (fun p hp e => by
        have := hR1 p hp
        rw [e, hk] at this; cases this.1)
      -- the new places of the objects
      let Y : Xm := fun k => bif och.elem k then X' (qOf R k) else bif gar.elem k then none else X' k
      have Yo : ∀ k, och.elem k = true → Y k = X' (qOf R k) := fun k hk => by simp only [Y, hk, cond_true]
      have Yn : ∀ k, och.elem k = false → gar.elem k = false → Y k = X' k := fun k hk hg => by simp only [Y, hk, hg, cond_false]
      have Yq : ∀ k, okId och gar k = true → Y k = X' (qOf R k) := fun k hk => by
        cases ho' : och.elem k with
        | true => exact Yo k ho'
        | false =>
          rw [okId, ho'] at hk
          rw [Yn k ho' (by simpa using hk), hfix2 k ho']
      have Yd : ∀ k, m k ≠ .no → Y k = X' k := fun k hk => by
        cases ho' : och.elem k with
        | true => rw [Yo k ho', hfix k hk]
        | false => exact Yn k ho' (by
            cases hg : gar.elem k with
            | false => rfl
            | true => exact absurd (hgar k hg) hk)
      have Ys : ∀ k x, Y k = some x → okId och gar k = true := fun k x hx => by
        rw [okId]
        cases ho' : och.elem k with
        | true => rfl
        | false =>
          cases hg : gar.elem k with
          | false => rfl
          | true => simp only [Y, ho', hg, cond_false, cond_true] at hx; cases hx
      have M' : ∀ k, okId och gar k = true → st'.m (qOf R k) = ((frame och (objs (ob b')) m) k).ren (qOf R) ∧ ∀ j ∈ ((frame och (objs (ob b')) m) k).ids, Y j = X' (qOf R j) := fun k hk => by
        cases ho' : och.elem k with
        | true =>
          obtain ⟨q1, q2⟩ := hasQ_spec h4 k (by rw [hoc]; simpa using ho')
          rw [frame_at, ho', cond_true]
          rw [List.all_eq_true] at q2
          exact ⟨q1, fun j hj => Yq j (q2 j hj)⟩
        | false =>
          rw [okId, ho'] at hk
          rw [frame_at, ho', cond_false, hfix2 k ho', o2 k (by simp at ho' hk ⊢; exact ⟨ho', hk⟩)]
          refine ⟨?_, fun j hj => by rw [Yd j (f2 k j hj), hfix j (f2 k j hj)]⟩
          have : ∀ j ∈ (m k).ids, qOf R j = j := fun j hj => hfix j (f2 k j hj)
          cases hmk : m k with
          | box cs =>
            rw [hmk, Ob.ids] at this
            rw [Ob.ren, V.renL_congr cs this]
          | dah es e hs =>
            rw [hmk, Ob.ids] at this
            rw [Ob.ren, dah_ren (fun z hz => this _ (List.mem_map_of_mem (f := fun h : Nat × Nat × Nat => h.2.2) hz))]
          | _ => rfl
      have inj : ∀ k k', okId och gar k = true → okId och gar k' = true → qOf R k = qOf R k' → k = k' := fun k k' hk hk' he => by
        cases h1 : och.elem k with
        | true =>
          cases h2 : och.elem k' with
          | true => exact hinj k k' h1 h2 he
          | false =>
            have := hin k h1
            rw [he, hfix2 k' h2] at this
            rw [okId, h2] at hk'
            simp at this h2 hk'
            rcases this with h | h <;> contradiction
        | false =>
          cases h2 : och.elem k' with
          | true =>
            have := hin k' h2
            rw [← he, hfix2 k h1] at this
            rw [okId, h1] at hk
            simp at this h1 hk
            rcases this with h | h <;> contradiction
          | false => rw [hfix2 k h1, hfix2 k' h2] at he; exact he
      refine ⟨G', Y, ⟨hM'.gle, hM'.gold, hM'.gok, hM'.keeps, ?_, ?_, ?_, ?_, ?_, ?_⟩, hd', hsz', ?_⟩
      · intro k x hx
        have hk := Ys k x hx
        obtain ⟨m1, m2⟩ := M' k hk
        rw [Yq k hk] at hx
        have := hM'.ob _ x hx
        rw [m1] at this
        exact Ob.Ok_unren (fun j hj y hy => by rw [m2 j hj]; exact hy) this
      · intro k
        cases hk : okId och gar k with
        | true =>
          obtain ⟨m1, _⟩ := M' k hk
          rw [Yq k hk, hM'.free, m1, Ob.ren_no]
        | false =>
          simp only [okId, Bool.or_eq_false_iff, Bool.not_eq_false'] at hk
          simp only [Y, hk.1, hk.2, cond_false, cond_true, frame_at, true_iff]
          exact hgar k hk.2
      · intro k k' x x' bl hx hx' hb1 hb2
        have hk := Ys k x hx
        have hk' := Ys k' x' hx'
        rw [Yq k hk] at hx
        rw [Yq k' hk'] at hx'
        refine inj k k' hk hk' (hM'.apart _ _ x x' bl hx hx' ?_ ?_)
        · rw [(M' k hk).1, Ob.has_ren]; exact hb1
        · rw [(M' k' hk').1, Ob.has_ren]; exact hb2
      · intro k x bl hx hb1
        have hk := Ys k x hx
        rw [Yq k hk] at hx
        exact hM'.mine _ x bl hx (by rw [(M' k hk).1, Ob.has_ren]; exact hb1)
      · intro k x hx
        have hk := Ys k x hx
        rw [Yq k hk] at hx
        exact hM'.cell _ x hx
      · intro k x hx
        rw [Yd k (f3 k (by rw [hx]; simp))]
        exact hM'.old k x hx
      · intro t htn
        simp only [frame_at asg]
        cases hk : asg.elem t with
        | false =>
          have := ht' t htn
          rw [o1 t hk] at this
          simp only [cond_false]
          have h9 := V.Is.ren (q := fun k => k) (Y := Y) (s t) _ (fun j hj y hy => by rw [Yd j (f1 t htn j hj)]; exact hy) this
          rwa [V.ren_id] at h9
        | true =>
          simp only [cond_true]
          rcases hasR_spec h3 t with h | ⟨h, hi⟩
          · rw [h, V.Is]; trivial
          · have := ht' t htn
            rw [h] at this
            rw [List.all_eq_true] at hi
            exact V.Is.unren _ _ (fun j hj y hy => by rw [Yq j (hi j hj)]; exact hy) this
    | _ => exact ⟨st', hq, hR'⟩
section
variable {α : Type} {asg och gar : List Nat} {μ : α → Nat} {sl : α → List (Nat × V)} {ob : α → List (Nat × Ob)} {Inv : α → Prop} {a : α} {s0 : Nat → V} {m0 : Nat → Ob} {st : St} {id : Nat}
end
theorem hasF_nil : HasF s [] := fun _ h => by cases h
theorem hasO_nil : HasO m [] := fun _ h => by cases h
theorem hasF_cons {i : Nat} {v v' : V} {r : List (Nat × V)} (h1 : s i = v') (h2 : v' = v) (h4 : HasF s r) : HasF s ((i, v) :: r) := fun p hp => by
  rcases List.mem_cons.1 hp with rfl | hp
  · exact h1.trans h2
  · exact h4 p hp
theorem hasO_cons {i : Nat} {v v' : Ob} {r : List (Nat × Ob)} (h1 : m i = v') (h2 : v' = v) (h4 : HasO m r) : HasO m ((i, v) :: r) := fun p hp => by
  rcases List.mem_cons.1 hp with rfl | hp
  · exact h1.trans h2
  · exact h4 p hp
theorem hasR_cons {och gar : List Nat} {q : Nat → Nat} {i : Nat} {v v' : V} {r : List (Nat × V)} (h1 : s i = v') (h2 : v' = v.ren q) (h3 : v.ids.all (okId och gar) = true) (h4 : HasR s och gar q r) : HasR s och gar q ((i, v) :: r) := ⟨⟨h1.trans h2, h3⟩, h4⟩
theorem hasQ_cons {och gar : List Nat} {q : Nat → Nat} {i : Nat} {v v' : Ob} {r : List (Nat × Ob)} (h1 : m (q i) = v') (h2 : v' = v.ren q) (h3 : v.ids.all (okId och gar) = true) (h4 : HasQ m och gar q r) : HasQ m och gar q ((i, v) :: r) := ⟨⟨h1.trans h2, h3⟩, h4⟩
end
end Go.Abs
end
