/- How stores, appends and sharing turn the memory of a function. -/
import Derived.Test.YtgicgbokgmmgdaaAbsB
set_option linter.unusedVariables false
set_option linter.unusedSimpArgs false
namespace Go.Abs
section
variable {P : Program} {C : Cx} {m : Nat → Ob} {w : World} {G : Im} {X : Xm}

theorem setRow_keeps {own : Nat → Prop} {w0 : World} (h : Keeps own w0 w) {b : Nat} (hb : own b ∨ w0.heap.size ≤ b) (cur : Array Value) : Keeps own w0 (w.setRow b cur) :=
  ⟨h.os, h.tape, h.output, by simpa using h.size, fun k hk hn => by
    rw [setRow_other w b k cur (by rintro rfl; rcases hb with hb | hb; exact hn hb; omega)]; exact h.block k hk hn⟩

theorem setRow_gok (h : Gok G w) {b : Nat} (hb : G b = none) (cur : Array Value) : Gok G (w.setRow b cur) := fun k cs hk => by
  obtain ⟨c, e, fr, hw, hr⟩ := h k cs hk
  exact ⟨c, e, fr, by rw [setRow_other w b k cur (by rintro rfl; rw [hb] at hk; cases hk)]; exact hw, hr⟩

/-- An object's block is written anew. -/
theorem Mem.rewrite (h : Mem P C m w G X) {k : Nat} {x : Value} {b : Nat} (hx : X k = some x) (hb : (m k).blk x = some b) (hG : G b = none) (cur : Array Value) (o : Ob)
    (hno : o ≠ .no) (hbl : ∀ b', o.blk x = some b' → b' = b) (hok : Ob.Ok P G X (w.setRow b cur) o x) : Mem P C (upd m k o) (w.setRow b cur) G X := by
  refine ⟨h.gle, h.gold, setRow_gok h.gok hG cur, setRow_keeps h.keeps (h.mine k x b hx hb) cur, ?_, ?_, ?_, ?_, h.cell, h.old⟩
  · intro k' y hy
    by_cases hk : k' = k
    · subst hk; rw [upd_same]; rw [hx] at hy; cases hy; exact hok
    · rw [upd_ne _ _ _ hk]
      refine (h.ob k' y hy).mono (Gle.refl G) (Xle.refl X) (fun _ _ => rfl) (fun b' hb' => ?_)
      exact setRow_other w b b' cur (by rintro rfl; exact hk (h.apart k' k y x _ hy hx hb' hb))
  · intro k'
    by_cases hk : k' = k
    · subst hk; rw [upd_same, hx]; simp [hno]
    · rw [upd_ne _ _ _ hk]; exact h.free k'
  · intro k1 k2 y1 y2 b' h1 h2 hb1 hb2
    by_cases e1 : k1 = k <;> by_cases e2 : k2 = k
    · rw [e1, e2]
    · subst e1; rw [upd_same] at hb1; rw [upd_ne _ _ _ e2] at hb2; rw [hx] at h1; cases h1
      have := hbl b' hb1; subst this
      exact h.apart _ _ _ _ _ hx h2 hb hb2
    · subst e2; rw [upd_same] at hb2; rw [upd_ne _ _ _ e1] at hb1; rw [hx] at h2; cases h2
      have := hbl b' hb2; subst this
      exact h.apart _ _ _ _ _ h1 hx hb1 hb
    · rw [upd_ne _ _ _ e1] at hb1; rw [upd_ne _ _ _ e2] at hb2; exact h.apart _ _ _ _ _ h1 h2 hb1 hb2
  · intro k1 y b' h1 hb1
    by_cases e1 : k1 = k
    · subst e1; rw [upd_same] at hb1; rw [hx] at h1; cases h1
      have := hbl b' hb1; subst this; exact h.mine k1 x _ hx hb
    · rw [upd_ne _ _ _ e1] at hb1; exact h.mine k1 y b' h1 hb1

/-- Of the last of several ids nothing is claimed any more. -/
theorem Mem.forgetOb (h : Mem P C m w G X) {k : Nat} {x : Value} (hx : X k = some x) (o : Ob) (hno : o ≠ .no) (hbl : o.blk x = none) (hok : Ob.Ok P G X w o x) : Mem P C (upd m k o) w G X := by
  refine ⟨h.gle, h.gold, h.gok, h.keeps, ?_, ?_, ?_, ?_, h.cell, h.old⟩
  · intro k' y hy
    by_cases hk : k' = k
    · subst hk; rw [upd_same]; rw [hx] at hy; cases hy; exact hok
    · rw [upd_ne _ _ _ hk]; exact h.ob k' y hy
  · intro k'
    by_cases hk : k' = k
    · subst hk; rw [upd_same, hx]; simp [hno]
    · rw [upd_ne _ _ _ hk]; exact h.free k'
  · intro k1 k2 y1 y2 b' h1 h2 hb1 hb2
    by_cases e1 : k1 = k
    · subst e1; rw [upd_same] at hb1; rw [hx] at h1; cases h1; rw [hbl] at hb1; cases hb1
    · by_cases e2 : k2 = k
      · subst e2; rw [upd_same] at hb2; rw [hx] at h2; cases h2; rw [hbl] at hb2; cases hb2
      · rw [upd_ne _ _ _ e1] at hb1; rw [upd_ne _ _ _ e2] at hb2; exact h.apart _ _ _ _ _ h1 h2 hb1 hb2
  · intro k1 y b' h1 hb1
    by_cases e1 : k1 = k
    · subst e1; rw [upd_same] at hb1; rw [hx] at h1; cases h1; rw [hbl] at hb1; cases hb1
    · rw [upd_ne _ _ _ e1] at hb1; exact h.mine k1 y b' h1 hb1

theorem Ob.Ok.is {es : List (List T)} {e : TypeId} {x : Value} (h : Ob.Ok P G X w (.arr es e false) x) : T.Is G (.sl es) x := by
  obtain ⟨xs, i, hi, hown, hr, hn⟩ := h
  rcases hown.2 with ⟨rfl, h0⟩ | ⟨g, cap, cur, rfl, _, hh, hc, hcm, _, _⟩
  · have : es = [] := List.eq_nil_of_length_eq_zero h0
    subst this
    exact ⟨none, 0, 0, rfl, Nat.le_refl _, Nat.zero_le _, .inl rfl⟩
  · exact ⟨_, cap, i.size, rfl, hc, hcm, .inr ⟨g, 0, xs, rfl, hn _ _ _ rfl, by simpa using hr⟩⟩

/-- More cells are known not to change any more: the new ones lie in a block that an object owns, or in a new one. -/
theorem Ob.Ok.grow {o : Ob} {x : Value} {G' : Im} (hG : Gle G G') (hg : ∀ b, o.blk x = some b → G' b = G b) (h : Ob.Ok P G X w o x) : Ob.Ok P G' X w o x :=
  h.mono hG (Xle.refl X) hg (fun _ _ => rfl)

/-- An array of the function's own is from now on not written any more (but for what is appended to it). -/
theorem Mem.freeze (h : Mem P C m w G X) {k : Nat} {es : List (List T)} {e : TypeId} {x : Value} (hm : m k = .arr es e true) (hx : X k = some x) :
    ∃ G', Gle G G' ∧ Mem P C (upd m k (.arr es e false)) w G' X := by
  have ho := h.ob k x hx
  rw [hm] at ho
  obtain ⟨xs, i, hi, hown, hr, hn⟩ := ho
  have hbl : ∀ y, Ob.blk (.arr es e false) y = (m k).blk y := fun y => by rw [hm]; cases y <;> first | rfl | (rename_i a _ _; cases a <;> rfl)
  have general : ∀ (G' : Im), Gle G G' → (∀ b, G' b ≠ G b → (m k).blk x = some b) → Gok G' w → Ob.Ok P G' X w (.arr es e false) x → Mem P C (upd m k (.arr es e false)) w G' X := by
    intro G' hle hd hgok hok
    refine ⟨h.gle.trans hle, ?_, hgok, h.keeps, ?_, ?_, ?_, ?_, h.cell, h.old⟩
    · intro b hb hnb
      by_cases e1 : G' b = G b
      · rw [e1]; exact h.gold b hb hnb
      · rcases h.mine k x b hx (hd b e1) with h1 | h1
        · exact absurd h1 hnb
        · omega
    · intro k' y hy
      by_cases hk : k' = k
      · subst hk; rw [upd_same]; rw [hx] at hy; cases hy; exact hok
      · rw [upd_ne _ _ _ hk]
        refine (h.ob k' y hy).grow hle fun b hb => ?_
        by_cases e1 : G' b = G b
        · exact e1
        · exact absurd (h.apart k' k y x b hy hx hb (hd b e1)) hk
    · intro k'
      by_cases hk : k' = k
      · subst hk; rw [upd_same, hx]; simp
      · rw [upd_ne _ _ _ hk]; exact h.free k'
    · intro k1 k2 y1 y2 b' h1 h2 hb1 hb2
      have f : ∀ k1 y1, X k1 = some y1 → (upd m k (.arr es e false) k1).blk y1 = some b' → (m k1).blk y1 = some b' := fun k1 y1 h1 hb1 => by
        by_cases e1 : k1 = k
        · subst e1; rw [upd_same] at hb1; rw [← hbl]; exact hb1
        · rw [upd_ne _ _ _ e1] at hb1; exact hb1
      exact h.apart _ _ _ _ _ h1 h2 (f _ _ h1 hb1) (f _ _ h2 hb2)
    · intro k1 y b' h1 hb1
      by_cases e1 : k1 = k
      · subst e1; rw [upd_same, hbl] at hb1; exact h.mine k1 y b' h1 hb1
      · rw [upd_ne _ _ _ e1] at hb1; exact h.mine k1 y b' h1 hb1
  rcases hown.2 with ⟨rfl, h0⟩ | ⟨g, cap, cur, rfl, hb0, hh, hc, hcm, hcs, htake⟩
  · exact ⟨G, Gle.refl G, general G (Gle.refl G) (fun b hb => absurd rfl hb) h.gok ⟨xs, i, hi, hown, hr, by intro a n c hx; simp at hx⟩⟩
  · have hgn : G g = none := by simpa using hn _ _ _ rfl
    have hle : Gle G (upd G g (some xs)) := fun b cs hb => by
      by_cases e1 : b = g
      · subst e1; rw [hgn] at hb; cases hb
      · exact ⟨[], by rw [upd_ne _ _ _ e1, hb, List.append_nil]⟩
    refine ⟨upd G g (some xs), hle, general _ hle ?_ ?_ ?_⟩
    · intro b hb
      by_cases e1 : b = g
      · subst e1; rw [hm]; rfl
      · rw [upd_ne _ _ _ e1] at hb; exact absurd rfl hb
    · intro b cs hb
      by_cases e1 : b = g
      · subst e1; rw [upd_same] at hb; cases hb
        exact ⟨cur, e, _, hh, _, by rw [← htake]; exact (List.take_append_drop _ _).symm⟩
      · rw [upd_ne _ _ _ e1] at hb; exact h.gok b cs hb
    · refine ⟨xs, i, hi, hown, T.Rows.mono hle _ _ _ _ (Sub.refl _) hr, ?_⟩
      intro a n c ha
      simp at ha
      obtain ⟨rfl, _⟩ := ha
      simp [upd_same]

/-- What an append comes to. -/
theorem run_append_cases (t ty e : TypeId) (i : TypeInfo) (z : Value) (ht : P.underlying t = some (.slice e)) (hi : P.info? e = some i) (hz : i.zero = some z) (hzs : z.cells.size = i.size)
    (x : Value) (n : Nat) (xs : List Value) (hown : w.ownsRow 0 e i.size x n xs) (B : Option Addr) (c mm : Nat) (news : List Value) (hl : news.length = mm * i.size)
    (hnews : mm = 0 ∨ ∃ a, B = some a ∧ ∀ j u, news[j]? = some u → w.cell? (a.add j) = some u) (h1 : ∀ u ∈ news, u.oneCell' = true) (hbytes : (n + mm) * i.bytes ≤ 140737488355328) (h63 : n + mm ≤ maxLen) :
    ∃ v' w', (Builtin.append_ #[t, t] ty #[x, .slice B mm c]).run P w = .ok v' w' ∧ w'.ownsRow 0 e i.size v' (n + mm) (xs ++ news) ∧
      ((v' = x ∧ w' = w ∧ mm = 0) ∨ (∃ g cap cap' cur cur' rest, x = .slice (some ⟨g, 0, none⟩) n cap ∧ v' = .slice (some ⟨g, 0, none⟩) (n + mm) cap' ∧ w.heap[g]? = some (.cells cur e (0, 0)) ∧ w' = w.setRow g cur' ∧ cur'.toList = (xs ++ news) ++ rest) ∨
       (∃ cap' cur' rest, v' = .slice (some ⟨w.heap.size, 0, none⟩) (n + mm) cap' ∧ w' = w.drew.alloc (.cells cur' e) ∧ cur'.toList = (xs ++ news) ++ rest)) := by
  have hsmall : n + mm ≤ 9223372036854775807 := by simp only [maxLen] at h63; omega
  have hlen : (xs ++ news).length = (n + mm) * i.size := by rw [List.length_append, hown.1, hl, Nat.add_mul]
  by_cases hm0 : mm = 0
  · subst hm0
    have hn0 : news = [] := List.eq_nil_of_length_eq_zero (by simpa using hl)
    subst hn0
    refine ⟨x, w, ?_, by simpa using hown, .inl ⟨rfl, rfl, rfl⟩⟩
    rcases hown.2 with ⟨rfl, rfl⟩ | ⟨g, cap, cur, rfl, _, _, hc, _⟩ <;> cases B <;>
      simp [Builtin.append_, run_underlying ht, sizeOf, typeInfo, hi, Builtin.lenOf, Builtin.firstCells, loadCells, loadCellsFrom, storeCells, *]
  · obtain ⟨a, rfl, hnw⟩ := hnews.resolve_left hm0
    clear hnews
    have grown : ∀ (old : Nat), old < n + mm →
        (w.drew.alloc (.cells (xs.toArray ++ news.toArray ++ Builtin.zeroCells z.cells (grownCap w (n + mm) old e - (n + mm))) e)).ownsRow 0 e i.size
          (.slice (some ⟨w.heap.size, 0, none⟩) (n + mm) (grownCap w (n + mm) old e)) (n + mm) (xs ++ news) := by
      intro old ho
      refine ⟨hlen, .inr ⟨w.heap.size, _, _, rfl, Nat.zero_le _, heap_alloc_new w.drew _, grownCap_ge w (n + mm) old e, grownCap_le_maxLen w (n + mm) old e h63, ?_, ?_⟩⟩
      · have := grownCap_ge w (n + mm) old e
        simp only [Array.size_append, List.size_toArray, size_zeroCells, hzs, hown.1, hl, ← Nat.add_mul]
        congr 1; omega
      · simp only [Array.toList_append, List.append_assoc]
        rw [← List.append_assoc, ← hlen]
        exact List.take_left
    rcases hown.2 with ⟨rfl, rfl⟩ | ⟨g, cap, cur, rfl, _, hg, hc, hcm, hcs, htake⟩
    · have hx : xs = [] := List.eq_nil_of_length_eq_zero (by simpa using hown.1)
      subst hx
      have hb' : mm * i.bytes ≤ 281474976710656 := by rw [Nat.zero_add] at hbytes; omega
      have hr := run_append_nil (P := P) w t ty e i z ht hi hz a mm c news hl hnw (by omega) (by omega) hb'
      have hgr := grown 0 (by omega)
      simp only [Nat.zero_add, List.nil_append] at hgr ⊢
      simp only [Array.empty_append, List.toArray, List.nil_append] at hgr
      refine ⟨_, _, hr, hgr, .inr (.inr ⟨_, _, (Builtin.zeroCells z.cells (grownCap w mm 0 e - mm)).toList, rfl, rfl, by simp⟩)⟩
    · by_cases hroom : n + mm ≤ cap
      · have hfit : n * i.size + news.length ≤ cur.size := by rw [hl, hcs, ← Nat.add_mul]; exact Nat.mul_le_mul_right _ hroom
        have hr := run_append_room (P := P) w t ty e i ht hi g n cap cur hg a mm c news hl hnw h1 hroom hfit
        refine ⟨_, _, hr, ⟨hlen, .inr ⟨g, cap, _, rfl, Nat.zero_le _, setRow_heap w g cur _ e _ hg, hroom, hcm, ?_, ?_⟩⟩, .inr (.inl ⟨g, cap, cap, cur, _, cur.toList.drop (n * i.size + news.length), rfl, rfl, hg, rfl, by rw [htake]⟩)⟩
        · simp only [List.size_toArray, List.length_append, List.length_take, List.length_drop, Array.length_toList]; omega
        · rw [htake, ← hlen]; exact List.take_left
      · have holds : ∀ j u, xs[j]? = some u → w.cell? ((⟨g, 0, none⟩ : Addr).add j) = some u := hown.cells (g := g) rfl
        have hr := run_append_grow (P := P) w t ty e i z ht hi hz ⟨g, 0, none⟩ n cap xs hown.1 holds a mm c news hl hnw (by omega) (by omega) (growslice_fits (by omega) hbytes)
        exact ⟨_, _, hr, grown cap (by omega), .inr (.inr ⟨_, _, (Builtin.zeroCells z.cells (grownCap w (n + mm) cap e - (n + mm))).toList, rfl, rfl, by simp⟩)⟩

/-- An append to a slice without elements and without room. -/
theorem run_append_ze (t ty e : TypeId) (i : TypeInfo) (z : Value) (ht : P.underlying t = some (.slice e)) (hi : P.info? e = some i) (hz : i.zero = some z) (hzs : z.cells.size = i.size)
    (A : Option Addr) (B : Option Addr) (c mm : Nat) (news : List Value) (hl : news.length = mm * i.size)
    (hnews : mm = 0 ∨ ∃ a, B = some a ∧ ∀ j u, news[j]? = some u → w.cell? (a.add j) = some u) (h1 : ∀ u ∈ news, u.oneCell' = true) (hbytes : mm * i.bytes ≤ 140737488355328) (h63 : mm ≤ maxLen) :
    ∃ v' w', (Builtin.append_ #[t, t] ty #[.slice A 0 0, .slice B mm c]).run P w = .ok v' w' ∧
      ((v' = .slice A 0 0 ∧ w' = w ∧ mm = 0) ∨ (∃ cap' cur' rest, v' = .slice (some ⟨w.heap.size, 0, none⟩) mm cap' ∧ w' = w.drew.alloc (.cells cur' e) ∧ cur'.toList = news ++ rest ∧ mm ≤ cap' ∧ cap' ≤ maxLen)) := by
  have hsmall : mm ≤ 9223372036854775807 := by simp only [maxLen] at h63; omega
  by_cases hm0 : mm = 0
  · subst hm0
    have hn0 : news = [] := List.eq_nil_of_length_eq_zero (by simpa using hl)
    subst hn0
    refine ⟨_, w, ?_, .inl ⟨rfl, rfl, rfl⟩⟩
    cases A <;> cases B <;>
      simp [Builtin.append_, run_underlying ht, sizeOf, typeInfo, hi, Builtin.lenOf, Builtin.firstCells, loadCells, loadCellsFrom, storeCells]
  · cases A with
    | none =>
      obtain ⟨v', w', hrun, hown, hc⟩ := run_append_cases (P := P) (w := w) t ty e i z ht hi hz hzs (.slice none 0 0) 0 [] (World.ownsRow_nil w 0 e i.size) B c mm news hl hnews h1 (by simpa using hbytes) (by simpa using h63)
      refine ⟨v', w', hrun, .inr ?_⟩
      rcases hc with ⟨_, _, h⟩ | ⟨g, cap, cap', cur, cur', rest, hx, _⟩ | ⟨cap', cur', rest, rfl, rfl, hcur⟩
      · exact absurd h hm0
      · cases hx
      · refine ⟨cap', cur', rest, by rw [Nat.zero_add], rfl, by simpa using hcur, ?_⟩
        rcases hown.2 with ⟨h, _⟩ | ⟨g, cap, cur, h, _, _, h3, h4, _⟩
        · cases h
        · cases h; exact ⟨by omega, h4⟩
    | some b =>
      obtain ⟨a, rfl, hnw⟩ := hnews.resolve_left hm0
      have hr := run_append_grow (P := P) w t ty e i z ht hi hz b 0 0 [] (by simp) (by simp) a mm c news hl hnw (by omega) (by omega) (growslice_fits (by omega) (by simpa using hbytes))
      refine ⟨_, _, hr, .inr ⟨_, _, _, by rw [Nat.zero_add], rfl, by simp only [Array.toList_append, List.append_assoc, List.toList_toArray, List.nil_append]; rfl, ?_, ?_⟩⟩
      · have := grownCap_ge w (0 + mm) 0 e; simpa using this
      · have := grownCap_le_maxLen w (0 + mm) 0 e (by omega); simpa using this
/-- A new block of which nobody knows, and which does not change any more. -/
theorem Mem.fresh (h : Mem P C m w G X) (cur : Array Value) (e : TypeId) (cs : List Value) (hc : ∃ rest, cur.toList = cs ++ rest) :
    Mem P C m (w.drew.alloc (.cells cur e)) (fun b => if b = w.heap.size then some cs else G b) X ∧ Gle G (fun b => if b = w.heap.size then some cs else G b) := by
  have hn : G w.heap.size = none := h.gok.none (Nat.le_refl _)
  have hle : Gle G (fun b => if b = w.heap.size then some cs else G b) := fun b ds hb => by
    by_cases hbe : b = w.heap.size
    · subst hbe; rw [hn] at hb; cases hb
    · exact ⟨[], by simp only [if_neg hbe, List.append_nil]; exact hb⟩
  have hsz : w.drew.heap.size = w.heap.size := rfl
  refine ⟨⟨h.gle.trans hle, ?_, ?_, ?_, ?_, h.free, h.apart, ?_, h.cell, h.old⟩, hle⟩
  · intro b hb ho
    have := h.keeps.size
    simp only [if_neg (show b ≠ w.heap.size by omega)]
    exact h.gold b hb ho
  · intro b ds hb
    by_cases hbe : b = w.heap.size
    · subst hbe
      simp only [if_pos] at hb; cases hb
      exact ⟨cur, e, _, heap_alloc_new w.drew _, hc⟩
    · simp only [if_neg hbe] at hb
      obtain ⟨cu, e', fr, hw, hr⟩ := h.gok b ds hb
      exact ⟨cu, e', fr, by rw [heap_alloc_old w.drew _ b (h.gok.lt hb)]; exact hw, hr⟩
  · exact Keeps.alloc (w := w.drew) ⟨h.keeps.os, h.keeps.tape, h.keeps.output, h.keeps.size, h.keeps.block⟩ _
  · intro k x hx
    exact (h.ob k x hx).mono hle (Xle.refl X) (fun b hb => by
      have := h.blk_lt hx hb
      simp only [if_neg (show b ≠ w.heap.size by omega)]) (fun b hb => heap_alloc_old w.drew _ b (h.blk_lt hx hb))
  · exact h.mine
/-- An append to an array of the function's own: a new object has the old elements and the new ones; the old one may at most be read, and that only if no one writes it. -/
theorem Mem.append (h : Mem P C m w G X) {k id : Nat} {es fs : List (List T)} {e : TypeId} {md : Bool} {x : Value} (hm : m k = .arr es e md) (hx : X k = some x) (hid : m id = .no)
    (t ty : TypeId) (i : TypeInfo) (z : Value) (ht : P.underlying t = some (.slice e)) (hi : P.info? e = some i) (hz : i.zero = some z) (hzs : z.cells.size = i.size)
    (B : Option Addr) (c : Nat) (news : List Value) (hl : news.length = fs.length * i.size) (hr2 : T.Rows G i.size fs news)
    (hnews : fs.length = 0 ∨ ∃ a, B = some a ∧ ∀ j u, news[j]? = some u → w.cell? (a.add j) = some u) (h1 : ∀ u ∈ news, u.oneCell' = true) (hbytes : (es.length + fs.length) * i.bytes ≤ 140737488355328) (h63 : es.length + fs.length ≤ maxLen) :
    ∃ v' w' G', (Builtin.append_ #[t, t] ty #[x, .slice B fs.length c]).run P w = .ok v' w' ∧ Gle G G' ∧ Xle X (upd X id (some v')) ∧
      Mem P C (upd (upd m k (if md then .dead else .ro es)) id (.arr (es ++ fs) e md)) w' G' (upd X id (some v')) := by
  have hXid : X id = none := (h.free id).2 hid
  have hkid : k ≠ id := by rintro rfl; rw [hx] at hXid; cases hXid
  have ho := h.ob k x hx
  have hro : md = false → T.Is G (.sl es) x := fun hmd => by rw [hm, hmd] at ho; exact ho.is
  rw [hm] at ho
  obtain ⟨xs, i', hi', hown, hr, hn⟩ := ho
  rw [hi] at hi'; cases hi'
  obtain ⟨v', w', hrun, hown', hcases⟩ := run_append_cases (P := P) t ty e i z ht hi hz hzs x es.length xs hown B c fs.length news hl hnews h1 hbytes h63
  have hxl : xs.length = es.length * i.size := hown.1
  have hone : v'.oneCell' = true := by
    rcases hcases with ⟨rfl, _⟩ | ⟨g, cap, cap', cur, cur', rest, _, rfl, _⟩ | ⟨cap', cur', rest, rfl, _⟩
    · exact h.cell k _ hx
    · rfl
    · rfl
  -- the new knowledge
  have key : ∃ G', Gle G G' ∧ (∀ b, G' b ≠ G b → (m k).blk x = some b ∨ w.heap.size ≤ b) ∧ Gok G' w' ∧ (∀ b, b < w.heap.size → (m k).blk x ≠ some b → w'.heap[b]? = w.heap[b]?) ∧
      (∀ b, Ob.blk (.arr (es ++ fs) e md) v' = some b → ((m k).blk x = some b ∨ w.heap.size ≤ b) ∧ G' b = if md then none else some (xs ++ news)) ∧
      w'.os = w.os ∧ w'.tape = w.tape ∧ w'.output = w.output ∧ w.heap.size ≤ w'.heap.size := by
    rcases hcases with ⟨rfl, rfl, h0⟩ | ⟨g, cap, cap', cur, cur', rest, rfl, rfl, hg, rfl, hcur⟩ | ⟨cap', cur', rest, rfl, rfl, hcur⟩
    · have hn0 : news = [] := List.eq_nil_of_length_eq_zero (by rw [hl, h0, Nat.zero_mul])
      refine ⟨G, Gle.refl G, fun b hb => absurd rfl hb, h.gok, fun _ _ _ => rfl, fun b hb => ?_, rfl, rfl, rfl, Nat.le_refl _⟩
      have hb' : (m k).blk v' = some b := by rw [hm]; cases v' <;> first | (rename_i a _ _; cases a <;> exact hb) | exact hb
      refine ⟨.inl hb', ?_⟩
      cases v' with
      | slice a n' c' =>
        cases a with
        | none => simp [Ob.blk] at hb
        | some a => simp [Ob.blk] at hb; subst hb; rw [hn0, List.append_nil]; exact hn a n' c' rfl
      | _ => simp [Ob.blk] at hb
    · have hgk : (m k).blk (.slice (some ⟨g, 0, none⟩) es.length cap) = some g := by rw [hm]; rfl
      have hGg := hn ⟨g, 0, none⟩ es.length cap rfl
      cases md with
      | true =>
        have hGn : G g = none := by simpa using hGg
        refine ⟨G, Gle.refl G, fun b hb => absurd rfl hb, setRow_gok h.gok hGn _, fun b _ hb => setRow_other w g b _ (by rintro rfl; exact hb hgk), fun b hb => ?_, rfl, rfl, rfl, by simp⟩
        simp [Ob.blk] at hb; subst hb
        exact ⟨.inl hgk, by simpa using hGn⟩
      | false =>
        have hGs : G g = some xs := by simpa using hGg
        refine ⟨upd G g (some (xs ++ news)), ?_, ?_, ?_, fun b _ hb => setRow_other w g b _ (by rintro rfl; exact hb hgk), fun b hb => ?_, rfl, rfl, rfl, by simp⟩
        · intro b cs hb
          by_cases e1 : b = g
          · subst e1; rw [hGs] at hb; cases hb; exact ⟨news, upd_same _ _ _⟩
          · exact ⟨[], by rw [upd_ne _ _ _ e1, hb, List.append_nil]⟩
        · intro b hb
          by_cases e1 : b = g
          · subst e1; exact .inl hgk
          · rw [upd_ne _ _ _ e1] at hb; exact absurd rfl hb
        · intro b cs hb
          by_cases e1 : b = g
          · subst e1; rw [upd_same] at hb; cases hb
            exact ⟨cur', e, _, setRow_heap w b cur cur' e _ hg, rest, hcur⟩
          · rw [upd_ne _ _ _ e1] at hb
            obtain ⟨c1, e2, fr, hw, hr1⟩ := h.gok b cs hb
            exact ⟨c1, e2, fr, by rw [setRow_other w g b _ e1]; exact hw, hr1⟩
        · simp [Ob.blk] at hb; subst hb
          exact ⟨.inl hgk, by rw [upd_same]; rfl⟩
    · have hGn : G w.heap.size = none := h.gok.none (Nat.le_refl _)
      have hgok' : Gok G (w.drew.alloc (.cells cur' e)) := Gok.alloc (w := w.drew) h.gok _
      cases md with
      | true =>
        refine ⟨G, Gle.refl G, fun b hb => absurd rfl hb, hgok', fun b hb _ => heap_alloc_old w.drew _ b hb, fun b hb => ?_, rfl, rfl, rfl, by simp⟩
        simp [Ob.blk] at hb; subst hb
        exact ⟨.inr (Nat.le_refl _), by simpa using hGn⟩
      | false =>
        refine ⟨upd G w.heap.size (some (xs ++ news)), ?_, ?_, ?_, fun b hb _ => heap_alloc_old w.drew _ b hb, fun b hb => ?_, rfl, rfl, rfl, by simp⟩
        · intro b cs hb
          by_cases e1 : b = w.heap.size
          · subst e1; rw [hGn] at hb; cases hb
          · exact ⟨[], by rw [upd_ne _ _ _ e1, hb, List.append_nil]⟩
        · intro b hb
          by_cases e1 : b = w.heap.size
          · exact .inr (by omega)
          · rw [upd_ne _ _ _ e1] at hb; exact absurd rfl hb
        · intro b cs hb
          by_cases e1 : b = w.heap.size
          · subst e1; rw [upd_same] at hb; cases hb
            exact ⟨cur', e, _, heap_alloc_new w.drew _, rest, hcur⟩
          · rw [upd_ne _ _ _ e1] at hb; exact hgok' b cs hb
        · simp [Ob.blk] at hb; subst hb
          exact ⟨.inr (Nat.le_refl _), by rw [upd_same]; rfl⟩
  obtain ⟨G', hle, hd, hgok', hblk, hnew, hos, htape, hout, hsize⟩ := key
  refine ⟨v', w', G', hrun, hle, Xle_upd hXid, hle |> h.gle.trans, ?_, hgok', ?_, ?_, ?_, ?_, ?_, ?_, fun k y hk => Xle_upd hXid k y (h.old k y hk)⟩
  · intro b hb hnb
    by_cases e1 : G' b = G b
    · rw [e1]; exact h.gold b hb hnb
    · rcases hd b e1 with h2 | h2
      · rcases h.mine k x b hx h2 with h3 | h3
        · exact absurd h3 hnb
        · omega
      · have := h.keeps.size; omega
  · refine ⟨hos.trans h.keeps.os, htape.trans h.keeps.tape, hout.trans h.keeps.output, Nat.le_trans h.keeps.size hsize, fun b hb hnb => ?_⟩
    rw [hblk b (by have := h.keeps.size; omega) (fun hb' => ?_)]
    · exact h.keeps.block b hb hnb
    · rcases h.mine k x b hx hb' with h3 | h3
      · exact hnb h3
      · omega
  · intro k' y hy
    by_cases e1 : k' = id
    · subst e1; rw [upd_same] at hy ⊢; cases hy
      refine ⟨xs ++ news, i, hi, by rw [List.length_append]; exact hown', (T.Rows.mono hle _ _ _ _ (Sub.refl _) (hr.append hxl hr2)), ?_⟩
      intro a n c' ha
      exact (hnew a.block (by rw [ha]; rfl)).2
    · rw [upd_ne _ _ _ e1] at hy ⊢
      by_cases e2 : k' = k
      · subst e2; rw [upd_same]; rw [hx] at hy; cases hy
        cases md with
        | true => trivial
        | false => exact T.Is.mono hle _ _ (hro rfl)
      · rw [upd_ne _ _ _ e2]
        refine (h.ob k' y hy).mono hle (Xle_upd hXid) (fun b hb => ?_) (fun b hb => hblk b (h.blk_lt hy hb) (fun hb' => e2 (h.apart k' k y x b hy hx hb hb')))
        by_cases e3 : G' b = G b
        · exact e3
        · rcases hd b e3 with h2 | h2
          · exact absurd (h.apart k' k y x b hy hx hb h2) e2
          · have := h.blk_lt hy hb; omega
  · intro k'
    by_cases e1 : k' = id
    · subst e1; rw [upd_same, upd_same]; simp
    · rw [upd_ne _ _ _ e1, upd_ne _ _ _ e1]
      by_cases e2 : k' = k
      · subst e2; rw [upd_same, hx]; cases md <;> simp
      · rw [upd_ne _ _ _ e2]; exact h.free k'
  · have nok : ∀ b y, (if md then Ob.dead else Ob.ro es).blk y ≠ some b := fun b y => by cases md <;> cases y <;> simp [Ob.blk]
    have f : ∀ k1 y1 b, k1 ≠ id → upd X id (some v') k1 = some y1 → (upd (upd m k (if md then .dead else .ro es)) id (.arr (es ++ fs) e md) k1).blk y1 = some b → k1 ≠ k ∧ X k1 = some y1 ∧ (m k1).blk y1 = some b := by
      intro k1 y1 b e1 h2 h3
      rw [upd_ne _ _ _ e1] at h2 h3
      by_cases e2 : k1 = k
      · subst e2; rw [upd_same] at h3; exact absurd h3 (nok b y1)
      · rw [upd_ne _ _ _ e2] at h3; exact ⟨e2, h2, h3⟩
    have sep : ∀ k1 y1 b, k1 ≠ id → upd X id (some v') k1 = some y1 → (upd (upd m k (if md then .dead else .ro es)) id (.arr (es ++ fs) e md) k1).blk y1 = some b → Ob.blk (.arr (es ++ fs) e md) v' = some b → False := by
      intro k1 y1 b e1 h2 h3 h4
      obtain ⟨e2, h5, h6⟩ := f k1 y1 b e1 h2 h3
      rcases (hnew b h4).1 with h7 | h7
      · exact e2 (h.apart k1 k y1 x b h5 hx h6 h7)
      · have := h.blk_lt h5 h6; omega
    intro k1 k2 y1 y2 b h2 h3 hb1 hb2
    by_cases e1 : k1 = id <;> by_cases e2 : k2 = id
    · rw [e1, e2]
    · subst e1; rw [upd_same] at h2 hb1; cases h2
      exact (sep k2 y2 b e2 h3 hb2 hb1).elim
    · subst e2; rw [upd_same] at h3 hb2; cases h3
      exact (sep k1 y1 b e1 h2 hb1 hb2).elim
    · obtain ⟨_, h4, h5⟩ := f k1 y1 b e1 h2 hb1
      obtain ⟨_, h6, h7⟩ := f k2 y2 b e2 h3 hb2
      exact h.apart k1 k2 y1 y2 b h4 h6 h5 h7
  · intro k1 y1 b h2 hb1
    by_cases e1 : k1 = id
    · subst e1; rw [upd_same] at h2 hb1; cases h2
      rcases (hnew b hb1).1 with h3 | h3
      · exact h.mine k x b hx h3
      · exact .inr (by have := h.keeps.size; omega)
    · rw [upd_ne _ _ _ e1] at h2 hb1
      by_cases e2 : k1 = k
      · subst e2; rw [upd_same] at hb1; exfalso; revert hb1; cases md <;> cases y1 <;> simp [Ob.blk]
      · rw [upd_ne _ _ _ e2] at hb1; exact h.mine k1 y1 b h2 hb1
  · intro k1 y1 h2
    by_cases e1 : k1 = id
    · subst e1; rw [upd_same] at h2; cases h2; exact hone
    · rw [upd_ne _ _ _ e1] at h2; exact h.cell k1 y1 h2
end
end Go.Abs
