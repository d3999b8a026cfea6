/- A part of the proof: what the functions that the law calls answer, as pure values. -/
import Derived.Lib.LaidTab
import Derived.Shelf.Strings.OnBuilder
import Derived.Test.YtjmfepncipfenaaDoorK9c32c640bd74
set_option linter.unusedSimpArgs false
set_option linter.unusedVariables false
section
set_option linter.unusedVariables false
set_option linter.unusedSimpArgs false
namespace Go.Abs
open Go.Sort
section
variable {P : Program} {C : Cx} {m : Nat → Ob} {w : World} {G : Im} {X : Xm}
theorem Mem.below (h : Mem P C m w G X) {w' : World} (hb : Go.RowKit.Below w.heap.size w w') : Mem P C m w' G X := by
  have hh : ∀ k y b, X k = some y → ((m k).has w' y b ↔ (m k).has w y b) := fun k y b hy => Ob.has_congr (fun b2 hb2 => hb.block b2 (h.blk_lt hy hb2)) (h.ob k y hy) b
  refine ⟨h.gle, h.gold, fun b cs hb2 => ?_, ⟨hb.os.trans h.keeps.os, hb.tape.trans h.keeps.tape, hb.output.trans h.keeps.output, Nat.le_trans h.keeps.size hb.size, fun b h1 h2 => ?_⟩, fun k y hy => ?_, h.free, fun k k' y y' b h1 h2 h3 h4 => h.apart k k' y y' b h1 h2 ((hh k y b h1).1 h3) ((hh k' y' b h2).1 h4), fun k y b h1 h2 => h.mine k y b h1 ((hh k y b h1).1 h2), h.cell, h.old⟩
  · obtain ⟨cur, e, fr, hw, hr⟩ := h.gok b cs hb2
    exact ⟨cur, e, fr, by rw [hb.block b (h.gok.lt hb2)]; exact hw, hr⟩
  · rw [hb.block b (by have := h.keeps.size; omega)]; exact h.keeps.block b h1 h2
  · exact (h.ob k y hy).mono (Gle.refl G) (Xle.refl X) (fun _ _ => rfl) (fun b' hb' => hb.block b' (h.blk_lt hy hb'))
theorem Mem.varIs (h : Mem P C m w G X) {name ask : String} {Q : Array Value → Prop} (hp : (name, ask, Q) ∈ libTabs) (hg : (P.globalNamed name).isSome = true) (ha : (P.globalNamed ask).isSome = true) : ∃ cs, w.var? P name = some cs ∧ Q cs := by
  obtain ⟨g, hg⟩ := Option.isSome_iff_exists.1 hg
  obtain ⟨cs, e, fr, hw, hq⟩ := h.tabW _ hp g hg ha
  refine ⟨cs, ?_, hq⟩
  unfold World.var?
  rw [hg, Option.bind_some, hw]
theorem Mem.tabIs (h : Mem P C m w G X) (hg : (P.globalNamed "internal/strconv.uint64pow10").isSome = true) : Lib.TabIs P w "internal/strconv.uint64pow10" .u64 Lib.pow10Tab := by
  obtain ⟨cs, h1, h2⟩ := h.varIs (ask := "internal/strconv.uint64pow10") (List.mem_cons_self ..) hg hg
  unfold Lib.TabIs
  rw [h1, h2]
end
theorem ac_itoa {P : Program} {f : Nat} (n : Int) (hfn : ∃ fn, P.funcs[f]? = some fn ∧ fn.body.isSome = true ∧ (fn.name == "runtime.NumGoroutine") = false) (hg : (P.globalNamed "internal/strconv.uint64pow10").isSome = true)
    (h : ∀ w, Lib.TabIs P w "internal/strconv.uint64pow10" .u64 Lib.pow10Tab → Calls P f #[.int .i64 n] w fun e w' => e = .returned (.string ⟨(Lib.itoa n).toArray⟩) ∧ ∃ k os, w' = grow (w.drewN k) os) :
    AC P f [.t (.sc (.int .i64 n))] noOb (.t (.sc (.str ⟨(Lib.itoa n).toArray⟩))) noOb := by
  refine ⟨hfn, ?_⟩
  intro w G X own xs hM hx
  rw [V.IsL] at hx
  obtain ⟨y, ys, rfl, h1, hx⟩ := hx
  rw [V.IsL] at hx
  subst hx
  rw [V.Is, T.Is] at h1
  subst h1
  refine (h w (hM.tabIs hg)).mono ?_
  rintro e w' ⟨rfl, k, os, rfl⟩
  refine ⟨_, G, X, rfl, hM.below ⟨rfl, rfl, rfl, by simp [grow, World.drewN], fun b hb => ?_⟩, by rw [V.Is, T.Is]; rfl⟩
  exact heap_grow_old _ _ (by simpa using hb)
theorem rows_strs {G : Im} {xs : List ByteArray} {l : List Value} (h : T.Rows G 1 (xs.map rS) l) : ∀ (j : Nat) (s : ByteArray), xs[j]? = some s → l[j]? = some (.string s) := by
  intro j s hj
  obtain ⟨_, ⟨c, hc, hi⟩, _⟩ := h.get j (rS s) (by rw [List.getElem?_map, hj]; rfl)
  rw [T.Is] at hi; subst hi
  rw [List.getElem?_drop, Nat.mul_one, Nat.add_zero] at hc
  exact hc
theorem ac_join {P : Program} {f : Nat} (xs : List ByteArray) (sep : ByteArray) (hfn : ∃ fn, P.funcs[f]? = some fn ∧ fn.body.isSome = true ∧ (fn.name == "runtime.NumGoroutine") = false) (hN : xs.length ≤ 140737488355328) (hlen : (Lib.join (xs.map (·.data.toList)) sep.data.toList).length ≤ 140737488355328)
    (hnone : ∀ (a : Option Addr) (c : Nat) (w : World), Calls P f #[.slice a 0 c, .string sep] w fun e w' => e = .returned (.string ⟨#[]⟩) ∧ w' = w)
    (h : ∀ (bk o c : Nat) (w : World), (∀ (j : Nat) x, xs[j]? = some x → w.cell? ⟨bk, o + j, none⟩ = some (.string x)) → bk < w.heap.size → xs.length ≤ c → Calls P f #[.slice (some ⟨bk, o, none⟩) xs.length c, .string sep] w fun e w' => e = .returned (.string ⟨(Lib.join (xs.map (·.data.toList)) sep.data.toList).toArray⟩) ∧ Go.RowKit.Below w.heap.size w w') :
    AC P f [.t (.sl (xs.map rS)), .t (.sc (.str sep))] noOb (.t (.sc (.str ⟨(Lib.join (xs.map (·.data.toList)) sep.data.toList).toArray⟩))) noOb := by
  refine ⟨hfn, ?_⟩
  intro w G X own ys hM hx
  rw [V.IsL] at hx
  obtain ⟨y, ys, rfl, h1, hx⟩ := hx
  rw [V.IsL] at hx
  obtain ⟨z, zs, rfl, h2, hx⟩ := hx
  rw [V.IsL] at hx
  subst hx
  rw [V.Is, T.Is] at h1
  rw [V.Is, T.Is] at h2
  subst h2
  obtain ⟨A, c, sz, rfl, h3, h4, h5⟩ := h1
  rw [List.length_map] at h3 ⊢
  rcases h5 with h5 | ⟨b, off, cs, rfl, hG, hr⟩
  · have hxs : xs = [] := by simpa using h5
    subst hxs
    refine (hnone A c w).mono ?_
    rintro e w' ⟨rfl, rfl⟩
    exact ⟨_, G, X, rfl, hM, by rw [V.Is, T.Is]; rfl⟩
  · cases hxs : xs with
    | nil =>
      subst hxs
      refine (hnone _ c w).mono ?_
      rintro e w' ⟨rfl, rfl⟩
      exact ⟨_, G, X, rfl, hM, by rw [V.Is, T.Is]; rfl⟩
    | cons x0 xs0 =>
      have hsz : sz = 1 := by
        rw [hxs, List.map_cons, T.Rows] at hr
        exact hr.1.symm
      subst hsz
      rw [← hxs]
      obtain ⟨cur, e0, fr, hw, rest, hcur⟩ := hM.gok b cs hG
      refine (h b off c w (fun j s hj => ?_) (hM.gok.lt hG) h3).mono ?_
      · have h6 := rows_strs hr j s hj
        rw [List.getElem?_drop] at h6
        rw [cell_at hw]
        have : cur.toList[off + j]? = some (.string s) := by
          rw [hcur, List.getElem?_append_left (List.getElem?_eq_some_iff.1 h6).1]; exact h6
        simpa using this
      · rintro e w' ⟨rfl, hb⟩
        exact ⟨_, G, X, rfl, hM.below hb, by rw [V.Is, T.Is]; rfl⟩
end Go.Abs
end
section
set_option linter.unusedVariables false
set_option linter.unusedSimpArgs false
namespace Go.Abs
section
variable {P : Program} {C : Cx} {m : Nat → Ob} {w : World} {G : Im} {X : Xm}
def vStrs (l : List ByteArray) : List V := l.map fun s => .t (.sc (.str s))
theorem did_load_glob (hM : Mem P C m w G X) {name : String} {l : List ByteArray} {gl : Nat} {t : TypeId} {Q : Array Value → Prop} (hq : (name, name, Q) ∈ libTabs) (hQ : ∀ cs, Q cs → cs = (l.map Value.string).toArray) (hg : P.globalNamed name = some gl)
    (hag : aggOf P t = some true) (hs : szOf P t = some l.length) {ρ : Operand → Value} {o : Oper} {x : Operand} (ho : o.op = .load t x) (hx : V.Is G X (.t (.sc (.gp gl))) (ρ x)) :
    Did P C m G X ((execOp ρ o).run P w) (.ag (vStrs l)) [] := by
  obtain ⟨cs, e, fr, hw, hcs⟩ := hM.tabW _ hq gl hg (by rw [hg]; rfl)
  obtain rfl := hQ _ hcs
  rw [V.Is, T.Is] at hx
  have hat : V.At G X (vStrs l) (((l.map Value.string).toArray).toList.drop 0) := fun j v hv => by
    unfold vStrs at hv
    rw [List.getElem?_map] at hv
    cases hj : l[j]? with
    | none => rw [hj] at hv; cases hv
    | some s =>
      rw [hj] at hv
      obtain rfl := Option.some.inj hv
      exact ⟨.string s, by simp [hj], by rw [V.Is, T.Is]; rfl⟩
  have htk : takeT P t (vStrs l) = some (.ag (vStrs l)) := by
    unfold takeT
    rw [hag, hs]
    have hl : (vStrs l).length = l.length := by unfold vStrs; rw [List.length_map]
    simp only
    rw [if_pos (by rw [hl]; exact Nat.le_refl _), ← hl, List.take_length]
  obtain ⟨y, hr, hi⟩ := run_load_is htk hw hat
  refine ⟨.value y, y, w, G, X, ?_, .inl rfl, Gle.refl G, Xle.refl X, hM, hi⟩
  simp [execOp, ho, hx, S.v, hr]
theorem did_index_arr (hM : Mem P C m w G X) {l : List ByteArray} {s : ByteArray} {j : Int} {k : IntKind} {t e : TypeId} (hix : idx l j = some s) (ht : P.underlying t = some (.array l.length e)) (hag : aggOf P e = some false) (hs : szOf P e = some 1)
    {ρ : Operand → Value} {o : Oper} {x i : Operand} (ho : o.op = .index t x i) (hx : V.Is G X (.ag (vStrs l)) (ρ x)) (hi : V.Is G X (.t (.sc (.int k j))) (ρ i)) :
    Did P C m G X ((execOp ρ o).run P w) (.t (.sc (.str s))) [] := by
  obtain ⟨h0, h1, h2⟩ := idx_some hix
  rw [V.Is] at hx
  obtain ⟨xs, hx, hl⟩ := hx
  rw [V.Is, T.Is] at hi
  have hxs : xs.toList = l.map Value.string := by
    have key : ∀ (l : List ByteArray) (xs : List Value), V.IsL G X (vStrs l) xs → xs = l.map Value.string := by
      intro l
      induction l with
      | nil => intro xs h; rw [vStrs, List.map_nil, V.IsL] at h; rw [h]; rfl
      | cons a l ih =>
        intro xs h
        rw [vStrs, List.map_cons, V.IsL] at h
        obtain ⟨y, ys, rfl, h1, h2⟩ := h
        rw [V.Is, T.Is] at h1
        rw [h1, ih ys h2]; rfl
    exact key l _ hl
  have hget : xs[j.toNat]? = some (.string s) := by
    have : xs.toList[j.toNat]? = some (.string s) := by rw [hxs, List.getElem?_map, h2]; rfl
    simpa using this
  have : (execOp ρ o).run P w = .ok (.value (.string s)) w := by
    have ha := run_agg (w := w) hag
    have hz := run_size (w := w) hs
    simp [execOp, ho, hx, hi, S.v, Instr.index, asIntOf, run_underlying ht, h0, h1, part, ha, hz, hget]
  rw [this]
  exact did_value hM (by rw [V.Is, T.Is]; rfl)
end
section
variable {P : Program} {n : Nat} {ops : Array Oper} {K : List (Nat × Oper × Ev) → St → Prop} {r : List (Oper × Nat)} {acc : List (Nat × Oper × Ev)} {ix : Nat} {s : Nat → V} {m : Nat → Ob} {d : Tmp} {ty : TypeId} {pos : String} {after : Array Edge} {g : Option (Nat × Bool)}
def coreFormsL : List ByteArray := [⟨#[108, 97, 109, 98, 100, 97]⟩, ⟨#[105, 102]⟩, ⟨#[113, 117, 111, 116, 101]⟩, ⟨#[108, 101, 116]⟩, ⟨#[108, 101, 116, 45, 115, 121, 110, 116, 97, 120]⟩]
theorem s_ldG {gl : Nat} {t : TypeId} {x : Operand} (hgl : P.globalNamed "loop.example/macroexpander/impl.coreForms" = some gl) (hag : aggOf P t = some true) (hs : szOf P t = some coreFormsL.length)
    (hr : Run P n ops K r ((ix, ⟨some d, .load t x, ty, pos, after, g⟩, ⟨.ag (vStrs coreFormsL), [], []⟩) :: acc) ⟨upd s d (.ag (vStrs coreFormsL)), m⟩) (hg : guardOf n ops ⟨some d, .load t x, ty, pos, after, g⟩ ⟨s, m⟩ = some true := by rfl) (hx : ev n s x = .t (.sc (.gp gl)) := by conv => lhs; whnf) : Run P n ops K ((⟨some d, .load t x, ty, pos, after, g⟩, ix) :: r) acc ⟨s, m⟩ :=
  run_gen (e := ⟨.ag (vStrs coreFormsL), [], []⟩) hg (fun s' m' q1 q2 C G X w ρ hM hE => by
    have hx' := hE x
    rw [q1 x (by simp [Op.operands]), hx] at hx'
    exact did_load_glob hM (name := "loop.example/macroexpander/impl.coreForms") (by simp [libTabs]; rfl) (fun cs h => h) hgl hag hs rfl hx') hr
theorem s_ixG {l : List ByteArray} {y : ByteArray} {t e : TypeId} {x i : Operand} {k : IntKind} {j : Int} (hix : idx l j = some y) (ht : P.underlying t = some (.array l.length e)) (hag : aggOf P e = some false) (hs : szOf P e = some 1)
    (hr : Run P n ops K r ((ix, ⟨some d, .index t x i, ty, pos, after, g⟩, ⟨.t (.sc (.str y)), [], []⟩) :: acc) ⟨upd s d (.t (.sc (.str y))), m⟩) (hg : guardOf n ops ⟨some d, .index t x i, ty, pos, after, g⟩ ⟨s, m⟩ = some true := by rfl) (hx : ev n s x = .ag (vStrs l) := by conv => lhs; whnf) (hi : ev n s i = .t (.sc (.int k j)) := by conv => lhs; whnf) : Run P n ops K ((⟨some d, .index t x i, ty, pos, after, g⟩, ix) :: r) acc ⟨s, m⟩ :=
  run_gen (e := ⟨.t (.sc (.str y)), [], []⟩) hg (fun s' m' q1 q2 C G X w ρ hM hE => by
    have hx' := hE x
    have hi' := hE i
    rw [q1 x (by simp [Op.operands]), hx] at hx'
    rw [q1 i (by simp [Op.operands]), hi] at hi'
    exact did_index_arr hM hix ht hag hs rfl hx' hi') hr
end
end Go.Abs
end
