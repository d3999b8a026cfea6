/- Regions whose operations Go may carry out in more than one order. -/
import Derived.Test.YtgicgbokgmmgdaaAbsN
set_option linter.unusedSimpArgs false
set_option linter.unusedVariables false
namespace Go.Abs

/-- An operation that stands before another one, by the edges. -/
inductive Reach (ops : Array Oper) : Nat → Nat → Prop
  | edge {i j : Nat} {o : Oper} {e : Edge} (ho : ops[j]? = some o) (he : e ∈ o.after) (hb : Region.binds .any e = true) (hi : e.on = i) : Reach ops i j
  | trans {i j : Nat} {o : Oper} {e : Edge} (ho : ops[j]? = some o) (he : e ∈ o.after) (hb : Region.binds .any e = true) (hr : Reach ops i e.on) : Reach ops i j

/-- The operations before each one, as sets of bits: a list of what is known of the first ones. -/
def beforeRow (acc : Array Nat) (o : Oper) : Nat := o.after.foldl (fun s e => if Region.binds .any e then s ||| 2 ^ e.on ||| acc.getD e.on 0 else s) 0

theorem beforeRow_spec {ops : Array Oper} {acc : Array Nat} (hacc : ∀ j i, (acc.getD j 0).testBit i = true → Reach ops i j) {j : Nat} {o : Oper} (ho : ops[j]? = some o) {i : Nat} (h : (beforeRow acc o).testBit i = true) : Reach ops i j := by
  unfold beforeRow at h
  rw [← Array.foldl_toList] at h
  have key : ∀ (l : List Edge) (s : Nat), (∀ e ∈ l, e ∈ o.after) → (l.foldl (fun s e => if Region.binds .any e then s ||| 2 ^ e.on ||| acc.getD e.on 0 else s) s).testBit i = true → s.testBit i = true ∨ Reach ops i j := by
    intro l
    induction l with
    | nil => intro s _ h; exact .inl h
    | cons e l ih =>
      intro s hl h
      rw [List.foldl_cons] at h
      rcases ih _ (fun e he => hl e (by simp [he])) h with h1 | h1
      · split at h1
        · rename_i hb
          simp only [Nat.testBit_or, Bool.or_eq_true, Nat.testBit_two_pow, decide_eq_true_eq] at h1
          rcases h1 with (h1 | h1) | h1
          · exact .inl h1
          · exact .inr (.edge ho (hl e (by simp)) hb h1)
          · exact .inr (.trans ho (hl e (by simp)) hb (hacc _ _ h1))
        · exact .inl h1
      · exact .inr h1
  rcases key o.after.toList 0 (fun e he => by simpa using he) h with h1 | h1
  · simp at h1
  · exact h1

theorem before_spec (ops : Array Oper) {i j : Nat} (h : ((Region.before ops).getD j 0).testBit i = true) : Reach ops i j := by
  unfold Region.before at h
  rw [← Array.foldl_toList] at h
  have key : ∀ (l : List Oper) (acc : Array Nat), (∀ q o, l[q]? = some o → ops[acc.size + q]? = some o) → (∀ j i, (acc.getD j 0).testBit i = true → Reach ops i j) →
      ∀ j i, ((l.foldl (fun acc o => acc.push (o.after.foldl (fun s e => if Region.binds .any e then s ||| 2 ^ e.on ||| acc.getD e.on 0 else s) 0)) acc).getD j 0).testBit i = true → Reach ops i j := by
    intro l
    induction l with
    | nil => intro acc _ hacc j i h; exact hacc j i h
    | cons o l ih =>
      intro acc hl hacc j i h
      rw [List.foldl_cons] at h
      refine ih (acc.push (beforeRow acc o)) (fun q o' hq => ?_) (fun j i h => ?_) j i h
      · rw [Array.size_push, Nat.add_assoc, Nat.add_comm 1 q]; exact hl (q + 1) o' (by simpa using hq)
      · rw [Array.getD_eq_getD_getElem?, Array.getElem?_push] at h
        split at h
        · rename_i hj
          have := hl 0 o rfl
          rw [Nat.add_zero] at this
          rw [hj]
          exact beforeRow_spec hacc this (by simpa using h)
        · exact hacc j i (by rw [Array.getD_eq_getD_getElem?]; exact h)
  exact key ops.toList #[] (fun q o hq => by simpa using hq) (fun j i h => by simp at h) j i h

/-- The edges point backwards. -/
def backward (ops : Array Oper) : Bool := ops.toList.zipIdx.all fun (o, i) => o.after.all fun e => !Region.binds .any e || decide (e.on < i)
theorem backward_spec {ops : Array Oper} (h : backward ops = true) {i : Nat} {o : Oper} (ho : ops[i]? = some o) {e : Edge} (he : e ∈ o.after) (hb : Region.binds .any e = true) : e.on < i := by
  unfold backward at h
  rw [List.all_eq_true] at h
  have h1 := h (o, i) (by rw [List.mem_zipIdx_iff_getElem?]; simpa using ho)
  simp only at h1
  rw [Array.all_eq_true_iff_forall_mem] at h1
  have h2 := h1 e he
  simpa [hb] using h2

/-- Each two operations stand in an order by the edges, or are independent. -/
def freeB (ops : Array Oper) (b : Array Nat) : List (Nat × Oper × Ev) → Bool
  | [] => true
  | x :: l => l.all (fun y => (b.getD y.1 0).testBit x.1 || indep ops x y) && freeB ops b l

section
variable {P : Program} {C : Cx} {n : Nat} {ops : Array Oper} {Q : Exit → Act → World → Prop}

theorem any_sound (hback : backward ops = true) {st' : St} (hK : ∀ a w, Rel P C n st' a w → Q .normal a w) :
    ∀ (fuel : Nat) (listed : Array Bool) (l : List (Nat × Oper × Ev)) (st : St), Chain P n ops st l st' → (∀ x ∈ l, x.1 < ops.size ∧ listed.getD x.1 true = false) → (∀ i, i < ops.size → listed.getD i true = false → i ∈ l.map (·.1)) →
      listed.size = ops.size → (l.map (·.1)).Pairwise (· < ·) → freeB ops (Region.before ops) l = true → (∀ i o, listed.getD i false = true → ops[i]? = some o → ∀ e ∈ o.after, Region.binds .any e = true → listed.getD e.on false = true) → l.length ≤ fuel →
      ∀ {a : Act} {w : World}, Rel P C n st a w → wpAny P .any ops Q fuel listed a w := by
  intro fuel
  induction fuel with
  | zero =>
    intro listed l st hch hl hcov hsz hsort hfree hclosed hlen a w hR
    have : l = [] := List.eq_nil_of_length_eq_zero (by omega)
    subst this
    cases hch
    refine ⟨?_, hK a w hR⟩
    unfold Region.ready
    rw [List.filter_eq_nil_iff]
    intro i hi
    simp only [List.mem_range] at hi
    intro hc
    simp only [Bool.and_eq_true, Bool.not_eq_true'] at hc
    have := hcov i hi hc.1
    simp at this
  | succ fuel ih =>
    intro listed l st hch hl hcov hsz hsort hfree hclosed hlen a w hR
    refine ⟨fun hr => ?_, fun i hi => ?_⟩
    · cases l with
      | nil => cases hch; exact hK a w hR
      | cons x l =>
        exfalso
        have hx := hl x (by simp)
        have hxo : ∃ o, ops[x.1]? = some o := ⟨ops[x.1]'hx.1, Array.getElem?_eq_getElem hx.1⟩
        obtain ⟨o, ho⟩ := hxo
        have : x.1 ∈ Region.ready .any ops listed := by
          unfold Region.ready
          rw [List.mem_filter]
          refine ⟨by simpa using hx.1, ?_⟩
          rw [hx.2, ho]
          simp only [Bool.not_false, Bool.true_and, Option.map_some, Option.getD_some]
          rw [Array.all_eq_true_iff_forall_mem]
          intro e he
          cases hb : Region.binds .any e with
          | false => rfl
          | true =>
            simp only [Bool.not_true, Bool.false_or]
            have hlt := backward_spec hback ho he hb
            cases hle : listed.getD e.on true with
            | true =>
              have : e.on < listed.size := by omega
              rw [Array.getD_eq_getD_getElem?, Array.getElem?_eq_getElem this] at hle ⊢
              simpa using hle
            | false =>
              have hm := hcov e.on (by omega) hle
              rw [List.map_cons, List.pairwise_cons] at hsort
              simp only [List.map_cons, List.mem_cons] at hm
              rcases hm with hm | hm
              · omega
              · have := hsort.1 _ hm; omega
        rw [hr] at this
        simp at this
    · unfold Region.ready at hi
      rw [List.mem_filter] at hi
      obtain ⟨hi1, hi2⟩ := hi
      simp only [List.mem_range] at hi1
      simp only [Bool.and_eq_true, Bool.not_eq_true'] at hi2
      obtain ⟨hi3, hi4⟩ := hi2
      have him := hcov i hi1 hi3
      obtain ⟨x, hx, rfl⟩ := List.mem_map.1 him
      obtain ⟨l1, l2, rfl⟩ := List.append_of_mem hx
      have hox : ops[x.1]? = some (ops[x.1]'hi1) := Array.getElem?_eq_getElem hi1
      rw [hox] at hi4
      simp only [Option.map_some, Option.getD_some] at hi4
      rw [Array.all_eq_true_iff_forall_mem] at hi4
      have hdeps : ∀ e ∈ (ops[x.1]'hi1).after, Region.binds .any e = true → listed.getD e.on false = true := by
        intro e he hb
        have := hi4 e he
        simpa [hb] using this
      have hreach : ∀ k j, Reach ops k j → (∀ o, ops[j]? = some o → ∀ e ∈ o.after, Region.binds .any e = true → listed.getD e.on false = true) → listed.getD k false = true := by
        intro k j hr
        induction hr with
        | edge ho he hb hi => intro h; rw [← hi]; exact h _ ho _ he hb
        | trans ho he hb hr ih => intro h; exact ih (fun o' ho' e' he' hb' => hclosed _ o' (h _ ho _ he hb) ho' e' he' hb')
      have hind : ∀ y ∈ l1, indep ops y x = true := by
        have hfy : ∀ (l1 : List (Nat × Oper × Ev)), freeB ops (Region.before ops) (l1 ++ x :: l2) = true → ∀ y ∈ l1, (((Region.before ops).getD x.1 0).testBit y.1 || indep ops y x) = true := by
          intro l1
          induction l1 with
          | nil => intro _ y hy; simp at hy
          | cons z l1 ih =>
            intro hf y hy
            simp only [List.cons_append, freeB, Bool.and_eq_true, List.all_eq_true] at hf
            simp at hy
            rcases hy with rfl | hy
            · exact hf.1 x (by simp)
            · exact ih hf.2 y hy
        intro y hy
        have h1 := hfy l1 hfree y hy
        rw [Bool.or_eq_true] at h1
        rcases h1 with h1 | h1
        · exfalso
          have h2 := hreach _ _ (before_spec ops h1) (fun o ho e he hb => by rw [hox] at ho; cases ho; exact hdeps e he hb)
          have h3 := (hl y (by simp [hy])).2
          have h4 : y.1 < listed.size := by rw [hsz]; exact (hl y (by simp [hy])).1
          rw [Array.getD_eq_getD_getElem?, Array.getElem?_eq_getElem h4] at h2 h3
          simp at h2 h3
          rw [h2] at h3; cases h3
        · exact h1
      have hch2 := chain_front hch hind
      obtain ⟨xi, xo, xe⟩ := x
      cases hch2 with
      | cons hi5 hd hch3 =>
        refine does_sound hi5 hd hR (fun a' w' hR' => ?_)
        have hsort' : ((l1 ++ l2).map (·.1)).Pairwise (· < ·) := by
          refine List.Pairwise.sublist ?_ hsort
          exact ((List.sublist_cons_self _ l2).append_left l1).map _
        have hnotin : xi ∉ (l1 ++ l2).map (·.1) := by
          intro hc
          rw [List.map_append, List.map_cons, List.pairwise_append] at hsort
          rw [List.map_append, List.mem_append] at hc
          obtain ⟨_, h6, h7⟩ := hsort
          rw [List.pairwise_cons] at h6
          rcases hc with hc | hc
          · have := h7 _ hc xi (by simp); omega
          · have := h6.1 _ hc; omega
        refine ih (listed.setIfInBounds xi true) (l1 ++ l2) _ hch3 ?_ ?_ (by simp [hsz]) hsort' ?_ ?_ (by simp at hlen ⊢; omega) hR'
        · intro y hy
          have hy' := hl y (by rw [List.mem_append] at hy ⊢; rcases hy with hy | hy; exact .inl hy; exact .inr (by simp [hy]))
          refine ⟨hy'.1, ?_⟩
          rw [getD_set_ne _ (fun e => hnotin (List.mem_map.2 ⟨y, hy, e.symm⟩))]
          exact hy'.2
        · intro j hj hjf
          by_cases hjx : xi = j
          · subst hjx
            rw [Array.getD_eq_getD_getElem?, Array.getElem?_setIfInBounds_self_of_lt (by omega)] at hjf
            simp at hjf
          · rw [getD_set_ne _ hjx] at hjf
            have := hcov j hj hjf
            simp only [List.map_append, List.map_cons, List.mem_append, List.mem_cons] at this ⊢
            rcases this with h | h | h
            · exact .inl h
            · exact absurd h.symm hjx
            · exact .inr h
        · have hfs : ∀ (l1 : List (Nat × Oper × Ev)), freeB ops (Region.before ops) (l1 ++ (xi, xo, xe) :: l2) = true → freeB ops (Region.before ops) (l1 ++ l2) = true := by
            intro l1
            induction l1 with
            | nil => intro h; simp only [List.nil_append, freeB, Bool.and_eq_true] at h ⊢; exact h.2
            | cons z l1 ih =>
              intro h
              simp only [List.cons_append, freeB, Bool.and_eq_true, List.all_eq_true] at h ⊢
              refine ⟨fun y hy => h.1 y ?_, ih h.2⟩
              rw [List.mem_append] at hy ⊢
              rcases hy with hy | hy
              · exact .inl hy
              · exact .inr (by simp [hy])
          exact hfs l1 hfree
        · intro j o hj ho e he hb
          by_cases hjx : xi = j
          · subst hjx
            rw [hox] at ho; cases ho
            exact getD_set_true (hdeps e he hb)
          · rw [getD_set_ne _ hjx] at hj
            exact getD_set_true (hclosed j o hj ho e he hb)

theorem range_sorted : ∀ (n : Nat), (List.range n).Pairwise (· < ·) := fun n => List.pairwise_lt_range

/-- A region that draws its order. -/
theorem region_any (hmix : P.follows .mixedOrders = true) {id : Nat} {l : List (Nat × Oper × Ev)} {st st' : St} (h : Chain P n ops st l st') (hl : l.map (·.1) = List.range ops.size) (hback : backward ops = true) (hfree : freeB ops (Region.before ops) l = true)
    (hK : ∀ a w, Rel P C n st' a w → Q .normal a w) {a : Act} {w : World} (hR : Rel P C n st a w) : (Code.region id ops true).wp P Q a w := by
  refine wp_region_any hmix ?_
  obtain ⟨G, X, hM, hd, hs, ht⟩ := hR
  refine any_sound hback hK ops.size _ l st h ?_ ?_ (by simp) (by rw [hl]; exact range_sorted _) hfree ?_ ?_ ⟨G, X, hM.drew _, hd, hs, ht⟩
  · intro x hx
    have : x.1 ∈ l.map (·.1) := List.mem_map.2 ⟨x, hx, rfl⟩
    rw [hl] at this
    simp only [List.mem_range] at this
    exact ⟨this, by rw [Array.getD_eq_getD_getElem?, Array.getElem?_replicate, if_pos this]; rfl⟩
  · intro i hi _
    rw [hl]; simpa using hi
  · intro i o hi
    rw [Array.getD_eq_getD_getElem?, Array.getElem?_replicate] at hi
    split at hi <;> simp at hi
  · have : l.length = (l.map (·.1)).length := by simp
    rw [this, hl]; simp
end
end Go.Abs
