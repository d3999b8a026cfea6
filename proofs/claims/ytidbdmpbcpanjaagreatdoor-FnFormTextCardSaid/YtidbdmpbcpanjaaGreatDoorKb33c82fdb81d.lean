/- A part of the proof: what the functions that the law calls answer, as pure values. -/
import Derived.BigCall
import Derived.Lib.AtoiAll
import Derived.Lib.AtoiErrMem
import Derived.Test.YtidbdmpbcpanjaaGreatDoorKfd063b042d95
import Derived.WalkKit
set_option linter.unusedSimpArgs false
set_option linter.unusedVariables false
section
set_option linter.unusedVariables false
set_option linter.unusedSimpArgs false
namespace Go.Abs
open Go.Sort Go.RowKit
section
variable {P : Program} {C : Cx} {m : Nat → Ob} {w : World} {G : Im} {X : Xm}
theorem Mem.maxLen (h : Mem P C m w G X) {g : Nat} (hg : P.globalNamed "internal/bytealg.MaxLen" = some g) (ha : (P.globalNamed "strconv.ErrSyntax").isSome = true) : ∃ z, w.cell? ⟨g, 0, none⟩ = some (.int .i64 z) := by
  obtain ⟨cs, e, fr, hw, z, hz⟩ := h.tabW _ (show ("internal/bytealg.MaxLen", "strconv.ErrSyntax", fun cs : Array Value => ∃ m, cs[0]? = some (.int .i64 m)) ∈ libTabs by simp [libTabs]) g hg ha
  exact ⟨z, by simp [World.cell?, hw, hz]⟩
end
theorem isL_two {G : Im} {X : Xm} {a b : S} {xs : List Value} (hx : V.IsL G X [.t (.sc a), .t (.sc b)] xs) : xs = [a.v, b.v] := by
  rw [V.IsL] at hx
  obtain ⟨y, ys, rfl, h1, hx⟩ := hx
  rw [V.IsL] at hx
  obtain ⟨z, zs, rfl, h2, hx⟩ := hx
  rw [V.IsL] at hx
  subst hx
  rw [V.Is, T.Is] at h1 h2
  subst h1; subst h2
  rfl
theorem isL_scs {G : Im} {X : Xm} : ∀ rs : List S, V.IsL G X (rs.map fun s => .t (.sc s)) (rs.map S.v)
  | [] => by rw [List.map_nil, V.IsL]; rfl
  | r :: rs => by
    rw [List.map_cons, V.IsL]
    exact ⟨_, _, rfl, by rw [V.Is, T.Is], isL_scs rs⟩
theorem ac_two_b {P : Program} {f : FuncId} {a b r : S} (hfn : ∃ fn, P.funcs[f]? = some fn ∧ fn.body.isSome = true ∧ (fn.name == "runtime.NumGoroutine") = false)
    (h : ∀ w, TabW P w → Calls P f #[a.v, b.v] w fun e w' => e = .returned r.v ∧ Go.RowKit.Below w.heap.size w w') :
    AC P f [.t (.sc a), .t (.sc b)] noOb (.t (.sc r)) noOb := by
  refine ⟨hfn, ?_⟩
  intro w G X own xs hM hx
  obtain rfl := isL_two hx
  refine (h w hM.tabW).mono ?_
  rintro e w' ⟨rfl, hb⟩
  exact ⟨_, G, X, rfl, hM.below hb, by rw [V.Is, T.Is]⟩
theorem ac_two_t {P : Program} {f : FuncId} {a b : S} (rs : List S) (hfn : ∃ fn, P.funcs[f]? = some fn ∧ fn.body.isSome = true ∧ (fn.name == "runtime.NumGoroutine") = false)
    (h : ∀ w, TabW P w → Calls P f #[a.v, b.v] w fun e w' => e = .returned (.tuple (rs.map S.v).toArray) ∧ Go.RowKit.Below w.heap.size w w') :
    AC P f [.t (.sc a), .t (.sc b)] noOb (.tp (rs.map fun s => .t (.sc s))) noOb := by
  refine ⟨hfn, ?_⟩
  intro w G X own xs hM hx
  obtain rfl := isL_two hx
  refine (h w hM.tabW).mono ?_
  rintro e w' ⟨rfl, hb⟩
  exact ⟨_, G, X, rfl, hM.below hb, by rw [V.Is]; exact ⟨_, rfl, isL_scs rs⟩⟩
theorem tabW_maxLen {P : Program} {w : World} (h : TabW P w) {g : Nat} (hg : P.globalNamed "internal/bytealg.MaxLen" = some g) (ha : (P.globalNamed "strconv.ErrSyntax").isSome = true) : ∃ z, w.cell? ⟨g, 0, none⟩ = some (.int .i64 z) := by
  obtain ⟨cs, e, fr, hw, z, hz⟩ := h _ (show ("internal/bytealg.MaxLen", "strconv.ErrSyntax", fun cs : Array Value => ∃ m, cs[0]? = some (.int .i64 m)) ∈ libTabs by simp [libTabs]) g hg ha
  exact ⟨z, by simp [World.cell?, hw, hz]⟩
theorem TabW.var {P : Program} {w : World} (h : TabW P w) {name ask : String} {Q : Array Value → Prop} (hp : (name, ask, Q) ∈ libTabs) (hg : (P.globalNamed name).isSome = true) (ha : (P.globalNamed ask).isSome = true) : ∃ cs, w.var? P name = some cs ∧ Q cs := by
  obtain ⟨g, hg⟩ := Option.isSome_iff_exists.1 hg
  obtain ⟨cs, e, fr, hw, hq⟩ := h _ hp g hg ha
  refine ⟨cs, ?_, hq⟩
  unfold World.var?
  rw [hg, Option.bind_some, hw]
theorem TabW.tabIs {P : Program} {w : World} (h : TabW P w) (hg : (P.globalNamed "internal/strconv.uint64pow10").isSome = true) : Lib.TabIs P w "internal/strconv.uint64pow10" .u64 Lib.pow10Tab := by
  obtain ⟨cs, h1, h2⟩ := h.var (ask := "internal/strconv.uint64pow10") (List.mem_cons_self ..) hg hg
  unfold Lib.TabIs
  rw [h1, h2]
theorem TabW.errSyntax {P : Program} {w : World} (h : TabW P w) (hg : (P.globalNamed "strconv.ErrSyntax").isSome = true) : ∃ t p, w.var? P "strconv.ErrSyntax" = some #[.iface t p] := by
  obtain ⟨cs, h1, t, p, rfl⟩ := h.var (ask := "strconv.ErrSyntax") (Q := fun cs => ∃ t p, cs = #[.iface t p]) (by simp [libTabs]) hg hg
  exact ⟨t, p, h1⟩
theorem TabW.errRange {P : Program} {w : World} (h : TabW P w) (hg : (P.globalNamed "strconv.ErrRange").isSome = true) : ∃ t p, w.var? P "strconv.ErrRange" = some #[.iface t p] := by
  obtain ⟨cs, h1, t, p, rfl⟩ := h.var (ask := "strconv.ErrRange") (Q := fun cs => ∃ t p, cs = #[.iface t p]) (by simp [libTabs]) hg hg
  exact ⟨t, p, h1⟩
theorem asc_all {l : List UInt8} (h : (l.all fun b => decide (b.toNat < 128)) = true) : ∀ (j : Nat) (b : UInt8), l[j]? = some b → b.toNat < 128 := fun j b hb => of_decide_eq_true (List.all_eq_true.1 h b (List.mem_of_getElem? hb))
theorem below_drewN (w : World) (n : Nat) : Go.RowKit.Below w.heap.size w (w.drewN n) := ⟨rfl, rfl, rfl, by simp [World.drewN], fun b hb => rfl⟩
theorem rows_of_strs {G : Im} : ∀ xs : List ByteArray, T.Rows G 1 (xs.map rS) (xs.map Value.string)
  | [] => trivial
  | x :: xs => by
    rw [List.map_cons, List.map_cons, T.Rows]
    refine ⟨rfl, ?_, ?_⟩
    · rw [T.Cells]
      exact ⟨⟨_, rfl, by rw [T.Is]; rfl⟩, trivial⟩
    · exact rows_of_strs xs
theorem atoiAll_in {l : List UInt8} {v : Int} (h : Lib.atoiAll l = .ok v) : -9223372036854775808 ≤ v ∧ v ≤ 9223372036854775807 := by
  unfold Lib.atoiAll at h
  split at h
  · cases h
  · dsimp only at h
    split at h
    · cases h
    · cases h
    · split at h
      · cases h
      · split at h
        · cases h
        · injection h with h
          subst h
          split <;> omega
theorem TabW.below {P : Program} {w w' : World} (h : TabW P w) (hb : Below w.heap.size w w') : TabW P w' := fun p hp g hg hc => by
  obtain ⟨cs, e, fr, hw, hq⟩ := h p hp g hg hc
  exact ⟨cs, e, fr, by rw [hb.block g (Array.getElem?_eq_some_iff.1 hw).1]; exact hw, hq⟩
theorem below_grow {w1 : World} (n : Nat) (h : n ≤ w1.heap.size) (k : Nat) (os : Array Obj) : Below n w1 (grow (w1.drewN k) os) :=
  ⟨rfl, rfl, rfl, by simp [grow, World.drewN], fun b hb => by exact heap_grow_old _ _ (by simp [World.drewN]; omega)⟩
theorem ac_split {P : Program} {f : FuncId} {s sep : ByteArray} {g e : Nat} (xs : List ByteArray) (hfn : ∃ fn, P.funcs[f]? = some fn ∧ fn.body.isSome = true ∧ (fn.name == "runtime.NumGoroutine") = false)
    (hg : P.globalNamed "internal/bytealg.MaxLen" = some g) (ha : (P.globalNamed "strconv.ErrSyntax").isSome = true) (hmax : xs.length ≤ maxLen)
    (h : ∀ w z, w.cell? ⟨g, 0, none⟩ = some (.int .i64 z) → Calls P f #[.string s, .string sep] w fun e' w' => e' = .returned (.slice (some ⟨w.heap.size, 0, none⟩) xs.length xs.length) ∧ w' = w.alloc (.cells (xs.map Value.string).toArray e)) :
    AC P f [.t (.sc (.str s)), .t (.sc (.str sep))] noOb (.t (.sl (xs.map rS))) noOb := by
  refine ⟨hfn, ?_⟩
  intro w G X own ys hM hx
  obtain rfl := isL_two hx
  obtain ⟨z, hz⟩ := hM.maxLen hg ha
  refine (h w z hz).mono ?_
  rintro e' w' ⟨rfl, rfl⟩
  obtain ⟨h1, h2⟩ := hM.fresh (xs.map Value.string).toArray e (xs.map Value.string) ⟨[], by simp⟩
  have h3 := h1.drew w.drawn
  refine ⟨_, _, X, rfl, h3, ?_⟩
  rw [V.Is, T.Is]
  exact ⟨some ⟨w.heap.size, 0, none⟩, xs.length, 1, by rw [List.length_map], by rw [List.length_map]; exact Nat.le_refl _, hmax, .inr ⟨w.heap.size, 0, xs.map Value.string, rfl, by rw [if_pos rfl], rows_of_strs xs⟩⟩
end Go.Abs
end
