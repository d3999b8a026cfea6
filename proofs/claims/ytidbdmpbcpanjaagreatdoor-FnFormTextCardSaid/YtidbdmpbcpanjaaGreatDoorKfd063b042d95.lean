/- A part of the proof: what the functions that the law calls answer, as pure values. -/
import Derived.Lib.LaidTab
import Derived.Shelf.Strings.OnBuilder
import Derived.Test.YtidbdmpbcpanjaaGreatDoorK65ba86490ab6
set_option linter.unusedSimpArgs false
set_option linter.unusedVariables false
section
set_option linter.unusedVariables false
set_option linter.unusedSimpArgs false
namespace Go.Abs
open Go.Sort
section
variable {P : Program} {C : Cx} {m : Nat → Ob} {w : World} {G : Im} {X : Xm}
theorem Mem.below (h : Mem P C m w G X) {w' : World} (hb : Go.RowKit.Below w.heap.size w w') : Mem P C m w' G X := by
  have hh : ∀ k y b, X k = some y → ((m k).has w' y b ↔ (m k).has w y b) := fun k y b hy => Ob.has_congr (fun b2 hb2 => hb.block b2 (h.blk_lt hy hb2)) (h.ob k y hy) b
  refine ⟨h.gle, h.gold, fun b cs hb2 => ?_, ⟨hb.os.trans h.keeps.os, hb.tape.trans h.keeps.tape, hb.output.trans h.keeps.output, Nat.le_trans h.keeps.size hb.size, fun b h1 h2 => ?_⟩, fun k y hy => ?_, h.free, fun k k' y y' b h1 h2 h3 h4 => h.apart k k' y y' b h1 h2 ((hh k y b h1).1 h3) ((hh k' y' b h2).1 h4), fun k y b h1 h2 => h.mine k y b h1 ((hh k y b h1).1 h2), h.cell, h.old⟩
  · obtain ⟨cur, e, fr, hw, hr⟩ := h.gok b cs hb2
    exact ⟨cur, e, fr, by rw [hb.block b (h.gok.lt hb2)]; exact hw, hr⟩
  · rw [hb.block b (by have := h.keeps.size; omega)]; exact h.keeps.block b h1 h2
  · exact (h.ob k y hy).mono (Gle.refl G) (Xle.refl X) (fun _ _ => rfl) (fun b' hb' => hb.block b' (h.blk_lt hy hb'))
theorem Mem.varIs (h : Mem P C m w G X) {name ask : String} {Q : Array Value → Prop} (hp : (name, ask, Q) ∈ libTabs) (hg : (P.globalNamed name).isSome = true) (ha : (P.globalNamed ask).isSome = true) : ∃ cs, w.var? P name = some cs ∧ Q cs := by
  obtain ⟨g, hg⟩ := Option.isSome_iff_exists.1 hg
  obtain ⟨cs, e, fr, hw, hq⟩ := h.tabW _ hp g hg ha
  refine ⟨cs, ?_, hq⟩
  unfold World.var?
  rw [hg, Option.bind_some, hw]
theorem Mem.tabIs (h : Mem P C m w G X) (hg : (P.globalNamed "internal/strconv.uint64pow10").isSome = true) : Lib.TabIs P w "internal/strconv.uint64pow10" .u64 Lib.pow10Tab := by
  obtain ⟨cs, h1, h2⟩ := h.varIs (ask := "internal/strconv.uint64pow10") (List.mem_cons_self ..) hg hg
  unfold Lib.TabIs
  rw [h1, h2]
end
theorem ac_itoa {P : Program} {f : Nat} (n : Int) (hfn : ∃ fn, P.funcs[f]? = some fn ∧ fn.body.isSome = true ∧ (fn.name == "runtime.NumGoroutine") = false) (hg : (P.globalNamed "internal/strconv.uint64pow10").isSome = true)
    (h : ∀ w, Lib.TabIs P w "internal/strconv.uint64pow10" .u64 Lib.pow10Tab → Calls P f #[.int .i64 n] w fun e w' => e = .returned (.string ⟨(Lib.itoa n).toArray⟩) ∧ ∃ k os, w' = grow (w.drewN k) os) :
    AC P f [.t (.sc (.int .i64 n))] noOb (.t (.sc (.str ⟨(Lib.itoa n).toArray⟩))) noOb := by
  refine ⟨hfn, ?_⟩
  intro w G X own xs hM hx
  rw [V.IsL] at hx
  obtain ⟨y, ys, rfl, h1, hx⟩ := hx
  rw [V.IsL] at hx
  subst hx
  rw [V.Is, T.Is] at h1
  subst h1
  refine (h w (hM.tabIs hg)).mono ?_
  rintro e w' ⟨rfl, k, os, rfl⟩
  refine ⟨_, G, X, rfl, hM.below ⟨rfl, rfl, rfl, by simp [grow, World.drewN], fun b hb => ?_⟩, by rw [V.Is, T.Is]; rfl⟩
  exact heap_grow_old _ _ (by simpa using hb)
theorem rows_strs {G : Im} {xs : List ByteArray} {l : List Value} (h : T.Rows G 1 (xs.map rS) l) : ∀ (j : Nat) (s : ByteArray), xs[j]? = some s → l[j]? = some (.string s) := by
  intro j s hj
  obtain ⟨_, ⟨c, hc, hi⟩, _⟩ := h.get j (rS s) (by rw [List.getElem?_map, hj]; rfl)
  rw [T.Is] at hi; subst hi
  rw [List.getElem?_drop, Nat.mul_one, Nat.add_zero] at hc
  exact hc
theorem ac_join {P : Program} {f : Nat} (xs : List ByteArray) (sep : ByteArray) (hfn : ∃ fn, P.funcs[f]? = some fn ∧ fn.body.isSome = true ∧ (fn.name == "runtime.NumGoroutine") = false) (hN : xs.length ≤ 140737488355328) (hlen : (Lib.join (xs.map (·.data.toList)) sep.data.toList).length ≤ 140737488355328)
    (hnone : ∀ (a : Option Addr) (c : Nat) (w : World), Calls P f #[.slice a 0 c, .string sep] w fun e w' => e = .returned (.string ⟨#[]⟩) ∧ w' = w)
    (h : ∀ (bk o c : Nat) (w : World), (∀ (j : Nat) x, xs[j]? = some x → w.cell? ⟨bk, o + j, none⟩ = some (.string x)) → bk < w.heap.size → xs.length ≤ c → Calls P f #[.slice (some ⟨bk, o, none⟩) xs.length c, .string sep] w fun e w' => e = .returned (.string ⟨(Lib.join (xs.map (·.data.toList)) sep.data.toList).toArray⟩) ∧ Go.RowKit.Below w.heap.size w w') :
    AC P f [.t (.sl (xs.map rS)), .t (.sc (.str sep))] noOb (.t (.sc (.str ⟨(Lib.join (xs.map (·.data.toList)) sep.data.toList).toArray⟩))) noOb := by
  refine ⟨hfn, ?_⟩
  intro w G X own ys hM hx
  rw [V.IsL] at hx
  obtain ⟨y, ys, rfl, h1, hx⟩ := hx
  rw [V.IsL] at hx
  obtain ⟨z, zs, rfl, h2, hx⟩ := hx
  rw [V.IsL] at hx
  subst hx
  rw [V.Is, T.Is] at h1
  rw [V.Is, T.Is] at h2
  subst h2
  obtain ⟨A, c, sz, rfl, h3, h4, h5⟩ := h1
  rw [List.length_map] at h3 ⊢
  rcases h5 with h5 | ⟨b, off, cs, rfl, hG, hr⟩
  · have hxs : xs = [] := by simpa using h5
    subst hxs
    refine (hnone A c w).mono ?_
    rintro e w' ⟨rfl, rfl⟩
    exact ⟨_, G, X, rfl, hM, by rw [V.Is, T.Is]; rfl⟩
  · cases hxs : xs with
    | nil =>
      subst hxs
      refine (hnone _ c w).mono ?_
      rintro e w' ⟨rfl, rfl⟩
      exact ⟨_, G, X, rfl, hM, by rw [V.Is, T.Is]; rfl⟩
    | cons x0 xs0 =>
      have hsz : sz = 1 := by
        rw [hxs, List.map_cons, T.Rows] at hr
        exact hr.1.symm
      subst hsz
      rw [← hxs]
      obtain ⟨cur, e0, fr, hw, rest, hcur⟩ := hM.gok b cs hG
      refine (h b off c w (fun j s hj => ?_) (hM.gok.lt hG) h3).mono ?_
      · have h6 := rows_strs hr j s hj
        rw [List.getElem?_drop] at h6
        rw [cell_at hw]
        have : cur.toList[off + j]? = some (.string s) := by
          rw [hcur, List.getElem?_append_left (List.getElem?_eq_some_iff.1 h6).1]; exact h6
        simpa using this
      · rintro e w' ⟨rfl, hb⟩
        exact ⟨_, G, X, rfl, hM.below hb, by rw [V.Is, T.Is]; rfl⟩
end Go.Abs
end
