/- The memory that a Go function of pure values works in: its boxes and arrays, and how each step turns them. -/
import Derived.Test.YtgicgbokgmmgdaaAbsA
set_option linter.unusedVariables false
set_option linter.unusedSimpArgs false
namespace Go.Abs

theorem S.v_one (s : S) : s.v.oneCell' = true := by cases s <;> rfl
theorem T.Is.one {G : Im} {t : T} {x : Value} (h : T.Is G t x) : x.oneCell' = true := by
  cases t with
  | sc s => rw [T.Is] at h; subst h; exact s.v_one
  | sl es => rw [T.Is] at h; obtain ⟨A, c, sz, rfl, _⟩ := h; rfl

def V.one : V → Bool
  | .ag _ | .tp _ | .jk => false
  | _ => true
theorem V.Is.one {G : Im} {X : Xm} {v : V} {x : Value} (hv : v.one = true) (h : V.Is G X v x) (hX : ∀ k y, X k = some y → y.oneCell' = true) : x.oneCell' = true := by
  cases v <;> simp [V.one] at hv <;> rw [V.Is] at h
  · exact h.one
  · subst h; rfl
  · obtain ⟨b, off, row, rfl, _⟩ := h; rfl
  · obtain ⟨b, _, rfl⟩ := h; rfl
  · obtain ⟨b, n, c, _, rfl⟩ := h; rfl
  · exact hX _ _ h
  · obtain ⟨xs, rfl, _⟩ := h; rfl
  · obtain ⟨A, rfl⟩ := h; rfl
  · exact h.1.one

inductive Ob where
  | no
  | dead
  | box (cs : List V)
  | arr (es : List (List T)) (e : TypeId) (md : Bool)
  | ro (es : List (List T))

/-- The block that an object owns. -/
def Ob.blk : Ob → Value → Option Nat
  | .box _, .pointer (some a) => some a.block
  | .arr _ _ _, .slice (some a) _ _ => some a.block
  | _, _ => none

def Ob.Ok (P : Program) (G : Im) (X : Xm) (w : World) : Ob → Value → Prop
  | .no, _ => True
  | .dead, _ => True
  | .box cs, x => ∃ b cur e, x = .pointer (some ⟨b, 0, none⟩) ∧ w.heap[b]? = some (.cells cur e (0, 0)) ∧ V.IsL G X cs cur.toList ∧ G b = none
  | .arr es e md, x => ∃ xs i, P.info? e = some i ∧ w.ownsRow 0 e i.size x es.length xs ∧ T.Rows G i.size es xs ∧ ∀ a n c, x = .slice (some a) n c → G a.block = if md then none else some xs
  | .ro es, x => T.Is G (.sl es) x

/-- Outside its own blocks and new ones the world w' is as w was. -/
structure Keeps (own : Nat → Prop) (w w' : World) : Prop where
  os : w'.os = w.os
  tape : w'.tape = w.tape
  output : w'.output = w.output
  size : w.heap.size ≤ w'.heap.size
  block : ∀ b, b < w.heap.size → ¬ own b → w'.heap[b]? = w.heap[b]?
theorem Keeps.refl (own : Nat → Prop) (w : World) : Keeps own w w := ⟨rfl, rfl, rfl, Nat.le_refl _, fun _ _ _ => rfl⟩

def Gok (G : Im) (w : World) : Prop := ∀ b cs, G b = some cs → ∃ cur e fr, w.heap[b]? = some (.cells cur e fr) ∧ ∃ rest, cur.toList = cs ++ rest
theorem Gok.lt {G : Im} {w : World} (h : Gok G w) {b : Nat} {cs : List Value} (hb : G b = some cs) : b < w.heap.size := by
  obtain ⟨cur, e, fr, hw, _⟩ := h b cs hb
  exact (Array.getElem?_eq_some_iff.1 hw).1
theorem Gok.none {G : Im} {w : World} (h : Gok G w) {b : Nat} (hb : w.heap.size ≤ b) : G b = none := by
  cases hg : G b with
  | none => rfl
  | some cs => exact absurd (h.lt hg) (by omega)

structure Cx where
  w0 : World
  G0 : Im
  own : Nat → Prop
  X0 : Xm

def upd {α : Type} (f : Nat → α) (k : Nat) (v : α) : Nat → α := fun i => if i = k then v else f i
theorem upd_same {α : Type} (f : Nat → α) (k : Nat) (v : α) : upd f k v k = v := by simp [upd]
theorem upd_ne {α : Type} (f : Nat → α) (k : Nat) (v : α) {i : Nat} (h : i ≠ k) : upd f k v i = f i := by simp [upd, h]

/-- The memory of a function: what does not change (G), where its objects lie (X), and that the rest of the world is as it was when the call began. -/
structure Mem (P : Program) (C : Cx) (m : Nat → Ob) (w : World) (G : Im) (X : Xm) : Prop where
  gle : Gle C.G0 G
  gold : ∀ b, b < C.w0.heap.size → ¬ C.own b → G b = C.G0 b
  gok : Gok G w
  keeps : Keeps C.own C.w0 w
  ob : ∀ k x, X k = some x → Ob.Ok P G X w (m k) x
  free : ∀ k, X k = none ↔ m k = .no
  apart : ∀ k k' x x' b, X k = some x → X k' = some x' → (m k).blk x = some b → (m k').blk x' = some b → k = k'
  mine : ∀ k x b, X k = some x → (m k).blk x = some b → C.own b ∨ C.w0.heap.size ≤ b
  cell : ∀ k x, X k = some x → x.oneCell' = true
  old : ∀ k x, C.X0 k = some x → X k = some x

section
variable {P : Program} {C : Cx} {m : Nat → Ob} {w : World} {G : Im} {X : Xm}

/-- An object's block is a block of the world. -/
theorem Mem.blk_lt (h : Mem P C m w G X) {k : Nat} {x : Value} {b : Nat} (hx : X k = some x) (hb : (m k).blk x = some b) : b < w.heap.size := by
  have ho := h.ob k x hx
  cases hm : m k with
  | no => rw [hm] at hb; cases x <;> simp [Ob.blk] at hb
  | dead => rw [hm] at hb; cases x <;> simp [Ob.blk] at hb
  | ro es => rw [hm] at hb; cases x <;> simp [Ob.blk] at hb
  | box cs =>
    rw [hm] at hb ho
    obtain ⟨b', cur, e, rfl, hw, _⟩ := ho
    simp [Ob.blk] at hb; subst hb
    exact (Array.getElem?_eq_some_iff.1 hw).1
  | arr es e md =>
    rw [hm] at hb ho
    obtain ⟨xs, i, hi, hown, _⟩ := ho
    cases x with
    | slice a n c =>
      cases a with
      | none => simp [Ob.blk] at hb
      | some a => simp [Ob.blk] at hb; subst hb; exact (hown.lt a.block (by simp [Value.ownBlock])).2
    | _ => simp [Ob.blk] at hb

theorem Ob.Ok.mono {o : Ob} {x : Value} {w' : World} {G' : Im} {X' : Xm} (hG : Gle G G') (hX : Xle X X') (hg : ∀ b, o.blk x = some b → G' b = G b)
    (hw : ∀ b, o.blk x = some b → w'.heap[b]? = w.heap[b]?) (h : Ob.Ok P G X w o x) : Ob.Ok P G' X' w' o x := by
  cases o with
  | no => trivial
  | dead => trivial
  | ro es => exact T.Is.mono hG _ _ h
  | box cs =>
    obtain ⟨b, cur, e, rfl, hb, hl, hn⟩ := h
    exact ⟨b, cur, e, rfl, by rw [hw b rfl]; exact hb, V.IsL.mono hG hX _ _ hl, by rw [hg b rfl]; exact hn⟩
  | arr es e md =>
    obtain ⟨xs, i, hi, hown, hr, hn⟩ := h
    refine ⟨xs, i, hi, ⟨hown.1, ?_⟩, T.Rows.mono hG _ _ _ _ (Sub.refl _) hr, ?_⟩
    · rcases hown.2 with ho | ⟨g, cap, cur, hx, hb, hh, rest⟩
      · exact .inl ho
      · exact .inr ⟨g, cap, cur, hx, hb, by rw [hw g (by rw [hx]; rfl)]; exact hh, rest⟩
    · intro a n c hx
      rw [hg a.block (by rw [hx]; rfl)]
      exact hn a n c hx

/-- A draw turns nothing. -/
theorem Mem.drew (h : Mem P C m w G X) (n : Nat) : Mem P C m { w with drawn := n } G X :=
  ⟨h.gle, h.gold, h.gok, ⟨h.keeps.os, h.keeps.tape, h.keeps.output, h.keeps.size, h.keeps.block⟩, fun k x hx => (h.ob k x hx).mono (Gle.refl G) (Xle.refl X) (fun _ _ => rfl) (fun _ _ => rfl), h.free, h.apart, h.mine, h.cell, h.old⟩

theorem Xle_upd {k : Nat} {x : Value} (h : X k = none) : Xle X (upd X k (some x)) := fun i y hy => by
  by_cases hi : i = k
  · subst hi; rw [h] at hy; cases hy
  · rw [upd_ne _ _ _ hi]; exact hy

theorem alloc_old {o : Obj} {b : Nat} (h : b < w.heap.size) : (w.alloc o).heap[b]? = w.heap[b]? := heap_alloc_old w o b h

theorem Gok.alloc {G : Im} (h : Gok G w) (o : Obj) : Gok G (w.alloc o) := fun b cs hb => by
  obtain ⟨cur, e, fr, hw, hr⟩ := h b cs hb
  exact ⟨cur, e, fr, by rw [alloc_old (h.lt hb)]; exact hw, hr⟩
theorem Keeps.alloc {own : Nat → Prop} {w0 : World} (h : Keeps own w0 w) (o : Obj) : Keeps own w0 (w.alloc o) :=
  ⟨h.os, h.tape, h.output, by have := h.size; simp; omega, fun b hb hn => by rw [alloc_old (by have := h.size; omega)]; exact h.block b hb hn⟩

/-- A new object in a new block. -/
theorem Mem.new (h : Mem P C m w G X) {id : Nat} (hid : m id = .no) (cur : Array Value) (e : TypeId) (o : Ob) (x : Value) (hno : o ≠ .no)
    (hok : Ob.Ok P G (upd X id (some x)) (w.alloc (.cells cur e)) o x) (hb : ∀ b, o.blk x = some b → b = w.heap.size) (hone : x.oneCell' = true) :
    Mem P C (upd m id o) (w.alloc (.cells cur e)) G (upd X id (some x)) ∧ Xle X (upd X id (some x)) := by
  have hX : X id = none := (h.free id).2 hid
  refine ⟨⟨h.gle, h.gold, h.gok.alloc _, h.keeps.alloc _, ?_, ?_, ?_, ?_, ?_, fun k y hk => Xle_upd hX k y (h.old k y hk)⟩, Xle_upd hX⟩
  · intro k y hy
    by_cases hk : k = id
    · subst hk; rw [upd_same] at hy ⊢; cases hy; exact hok
    · rw [upd_ne _ _ _ hk] at hy ⊢
      exact (h.ob k y hy).mono (Gle.refl G) (Xle_upd hX) (fun _ _ => rfl) (fun b hb' => alloc_old (h.blk_lt hy hb'))
  · intro k
    by_cases hk : k = id
    · subst hk; rw [upd_same, upd_same]; simp [hno]
    · rw [upd_ne _ _ _ hk, upd_ne _ _ _ hk]; exact h.free k
  · intro k k' y y' b hy hy' hb1 hb2
    by_cases hk : k = id <;> by_cases hk' : k' = id
    · rw [hk, hk']
    · subst hk; rw [upd_same] at hy hb1; rw [upd_ne _ _ _ hk'] at hy' hb2; cases hy
      have := hb b hb1; have := h.blk_lt hy' hb2; omega
    · subst hk'; rw [upd_same] at hy' hb2; rw [upd_ne _ _ _ hk] at hy hb1; cases hy'
      have := hb b hb2; have := h.blk_lt hy hb1; omega
    · rw [upd_ne _ _ _ hk] at hy hb1; rw [upd_ne _ _ _ hk'] at hy' hb2
      exact h.apart k k' y y' b hy hy' hb1 hb2
  · intro k y b hy hb1
    by_cases hk : k = id
    · subst hk; rw [upd_same] at hy hb1; cases hy
      exact .inr (by have := hb b hb1; have := h.keeps.size; omega)
    · rw [upd_ne _ _ _ hk] at hy hb1; exact h.mine k y b hy hb1
  · intro k y hy
    by_cases hk : k = id
    · subst hk; rw [upd_same] at hy; cases hy; exact hone
    · rw [upd_ne _ _ _ hk] at hy; exact h.cell k y hy

/-- A new box. -/
theorem Mem.newBox (h : Mem P C m w G X) {id : Nat} (hid : m id = .no) (cur : Array Value) (e : TypeId) (cs : List V) (hl : V.IsL G X cs cur.toList) :
    Mem P C (upd m id (.box cs)) (w.alloc (.cells cur e)) G (upd X id (some (.pointer (some ⟨w.heap.size, 0, none⟩)))) ∧ Xle X (upd X id (some (.pointer (some ⟨w.heap.size, 0, none⟩)))) := by
  refine h.new hid cur e _ _ (by simp) ?_ (fun b hb => by simpa [Ob.blk] using hb.symm) rfl
  exact ⟨w.heap.size, cur, e, rfl, heap_alloc_new w _, V.IsL.mono (Gle.refl G) (Xle_upd ((h.free id).2 hid)) _ _ hl, h.gok.none (Nat.le_refl _)⟩

/-- A new array, which no one else knows. -/
theorem Mem.newArr (h : Mem P C m w G X) {id : Nat} (hid : m id = .no) (cur : Array Value) (e : TypeId) (i : TypeInfo) (hi : P.info? e = some i) (es : List (List T)) (hl : T.Rows G i.size es cur.toList)
    (hsz : cur.size = es.length * i.size) (hmax : es.length ≤ maxLen) :
    Mem P C (upd m id (.arr es e true)) (w.alloc (.cells cur e)) G (upd X id (some (.slice (some ⟨w.heap.size, 0, none⟩) es.length es.length))) ∧ Xle X (upd X id (some (.slice (some ⟨w.heap.size, 0, none⟩) es.length es.length))) := by
  refine h.new hid cur e _ _ (by simp) ?_ (fun b hb => by simpa [Ob.blk] using hb.symm) rfl
  refine ⟨cur.toList, i, hi, ⟨by simpa using hsz, .inr ⟨w.heap.size, es.length, cur, rfl, Nat.zero_le _, heap_alloc_new w _, Nat.le_refl _, hmax, hsz, ?_⟩⟩, hl, ?_⟩
  · exact List.take_of_length_le (by simp [hsz])
  · intro a n c ha
    simp at ha
    obtain ⟨rfl, _⟩ := ha
    simpa using h.gok.none (Nat.le_refl _)
end
end Go.Abs
