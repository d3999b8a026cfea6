/- A part of the proof: what the functions that the law calls answer, as pure values. -/
import Derived.Lib.SplitLaws
import Derived.Test.YtidbdmpbcpanjaaGreatDoorK18db603c5c28
import Derived.Test.YtidbdmpbcpanjaaGreatDoorK7d4474f6c0a5
import Derived.Test.YtidbdmpbcpanjaaGreatDoorKe49cd82651b7
set_option linter.unusedSimpArgs false
set_option linter.unusedVariables false
section
set_option linter.unusedVariables false
set_option linter.unusedSimpArgs false
set_option maxHeartbeats 2000000
namespace Go.Abs
theorem drop_of {α : Type} {a b l : List α} (h : a ++ b = l) : l.drop a.length = b := by subst h; simp
theorem take_of {α : Type} {a b l : List α} (h : a ++ b = l) : l.take a.length = a := by subst h; simp
theorem tail_of {α : Type} {a b l : List α} {c : α} (h : a ++ c :: b = l) : l.drop (a.length + 1) = b := by subst h; simp
def skp (l : List UInt8) : List UInt8 := l.dropWhile (· == 32)
def dlm (b : UInt8) : Bool := [32, 40, 41, 123, 125].contains b
def wrd (l : List UInt8) : List UInt8 := l.takeWhile fun b => !dlm b
def rst (l : List UInt8) : List UInt8 := l.dropWhile fun b => !dlm b
theorem wrd_rst (l : List UInt8) : wrd l ++ rst l = l := List.takeWhile_append_dropWhile
theorem rst_drop (l : List UInt8) : rst l = l.drop (wrd l).length := by
  exact (drop_of (wrd_rst l)).symm
theorem wrd_take (l : List UInt8) : wrd l = l.take (wrd l).length := by
  exact (take_of (wrd_rst l)).symm
theorem wrd_le (l : List UInt8) : (wrd l).length ≤ l.length := by
  have := congrArg List.length (wrd_rst l)
  rw [List.length_append] at this; omega
theorem rst_le (l : List UInt8) : (rst l).length ≤ l.length := by
  have := congrArg List.length (wrd_rst l)
  rw [List.length_append] at this; omega
theorem skp_le : ∀ l : List UInt8, (skp l).length ≤ l.length
  | [] => Nat.le_refl _
  | b :: l => by
    unfold skp
    rw [List.dropWhile]
    split
    · have := skp_le l; unfold skp at this; rw [List.length_cons]; omega
    · exact Nat.le_refl _
theorem skp_cons (b : UInt8) (l : List UInt8) : skp (b :: l) = if b = 32 then skp l else b :: l := by
  unfold skp
  rw [List.dropWhile]
  by_cases h : b = 32
  · rw [if_pos h, beq_iff_eq.2 h]
  · rw [if_neg h, beq_eq_false_iff_ne.2 h]
theorem skp_head {l r : List UInt8} {c : UInt8} (h : skp l = c :: r) : c ≠ 32 := by
  induction l with
  | nil => cases h
  | cons b l ih =>
    rw [skp_cons] at h
    split at h
    · exact ih h
    · cases h; assumption
theorem skp_idem (l : List UInt8) : skp (skp l) = skp l := by
  cases h : skp l with
  | nil => rfl
  | cons c r => rw [skp_cons, if_neg (skp_head h)]
theorem skp_id {l : List UInt8} (h : l.head? ≠ some 32) : skp l = l := by
  cases l with
  | nil => rfl
  | cons c r => rw [skp_cons, if_neg (by simpa using h)]
theorem skp_sub (l : List UInt8) : skp l = l.drop (l.length - (skp l).length) := by
  have h : l.takeWhile (· == 32) ++ skp l = l := List.takeWhile_append_dropWhile
  have hl := congrArg List.length h
  rw [List.length_append] at hl
  rw [show l.length - (skp l).length = (l.takeWhile (· == 32)).length by omega, drop_of h]
def bef (c : UInt8) (l : List UInt8) : List UInt8 := l.takeWhile (· != c)
def aft (c : UInt8) (l : List UInt8) : List UInt8 := l.dropWhile (· != c)
theorem bef_aft (c : UInt8) (l : List UInt8) : bef c l ++ aft c l = l := List.takeWhile_append_dropWhile
theorem bef_cons (c b : UInt8) (l : List UInt8) : bef c (b :: l) = if b = c then [] else b :: bef c l := by
  unfold bef; rw [List.takeWhile]
  by_cases h : b = c
  · rw [if_pos h, bne_eq_false_iff_eq.2 h]
  · rw [if_neg h, bne_iff_ne.2 h]
theorem aft_cons (c b : UInt8) (l : List UInt8) : aft c (b :: l) = if b = c then b :: l else aft c l := by
  unfold aft; rw [List.dropWhile]
  by_cases h : b = c
  · rw [if_pos h, bne_eq_false_iff_eq.2 h]
  · rw [if_neg h, bne_iff_ne.2 h]
theorem index_ba (c : UInt8) : ∀ l : List UInt8, (aft c l = [] ∧ Lib.index l [c] = -1) ∨ (∃ r, aft c l = c :: r ∧ Lib.index l [c] = ((bef c l).length : Int))
  | [] => .inl ⟨rfl, rfl⟩
  | b :: l => by
    rw [aft_cons, bef_cons]
    by_cases h : b = c
    · subst h
      right
      refine ⟨l, by rw [if_pos rfl], ?_⟩
      rw [if_pos rfl, Lib.index, if_pos (by simp)]; rfl
    · rw [if_neg h, if_neg h]
      have hp : ([c] : List UInt8).isPrefixOf (b :: l) = false := by
        rw [List.isPrefixOf, beq_eq_false_iff_ne.2 (fun e => h e.symm), Bool.false_and]
      rcases index_ba c l with ⟨h1, h2⟩ | ⟨r, h1, h2⟩
      · exact .inl ⟨h1, by rw [Lib.index, hp, h2]; rfl⟩
      · refine .inr ⟨r, h1, ?_⟩
        rw [Lib.index, hp, h2, if_neg (by simp), if_neg (by simp only [beq_iff_eq]; omega), List.length_cons]; omega
theorem cut_ba (c : UInt8) (l : List UInt8) : Lib.cut l [c] = match aft c l with | [] => (l, [], false) | _ :: r => (bef c l, r, true) := by
  unfold Lib.cut
  rcases index_ba c l with ⟨h1, h2⟩ | ⟨r, h1, h2⟩
  · rw [h2, h1, if_neg (by omega)]
  · have e := bef_aft c l
    rw [h2, h1, if_pos (by omega)]
    dsimp only
    rw [Int.toNat_natCast]
    rw [h1] at e
    refine Prod.ext ?_ (Prod.ext ?_ rfl)
    · exact take_of e
    · exact tail_of e
def cutAt (c : UInt8) : List UInt8 → List (List UInt8)
  | [] => [[]]
  | x :: r => if x = c then [] :: cutAt c r else match cutAt c r with | [] => [[x]] | y :: ys => (x :: y) :: ys
theorem cutAt_len (c : UInt8) : ∀ l : List UInt8, (cutAt c l).length ≤ l.length + 1
  | [] => by simp [cutAt]
  | x :: r => by
    have h := cutAt_len c r
    rw [cutAt]
    split
    · simp; exact h
    · split
      · simp
      · rename_i y ys he
        rw [he] at h; simp at h ⊢; omega
theorem cutAt_ba (c : UInt8) : ∀ l : List UInt8, cutAt c l = match aft c l with | [] => [l] | _ :: r => bef c l :: cutAt c r
  | [] => rfl
  | x :: r => by
    rw [cutAt, aft_cons, bef_cons]
    by_cases h : x = c
    · rw [if_pos h, if_pos h, if_pos h]
    · rw [if_neg h, if_neg h, if_neg h, cutAt_ba c r]
      cases aft c r <;> rfl
theorem aft_lt {c x : UInt8} {l r : List UInt8} (h : aft c l = x :: r) : r.length < l.length ∧ (bef c l).length + 1 + r.length = l.length := by
  have := congrArg List.length (bef_aft c l)
  rw [h, List.length_append, List.length_cons] at this
  omega
theorem splitK_cut (c : UInt8) : ∀ (n : Nat) (l : List UInt8), l.length ≤ n → Lib.splitK [c] 0 (Lib.count l [c]) l = cutAt c l := by
  intro n
  induction n with
  | zero =>
    intro l h
    obtain rfl := List.eq_nil_of_length_eq_zero (l := l) (by omega)
    rfl
  | succ n ih =>
    intro l h
    rw [cutAt_ba]
    rcases index_ba c l with ⟨h1, h2⟩ | ⟨r, h1, h2⟩
    · rw [Lib.count_miss h2, h1]; rfl
    · have e := bef_aft c l
      rw [h1] at e
      have hd : l.drop ((bef c l).length + [c].length) = r := tail_of e
      have ht : l.take (bef c l).length = bef c l := take_of e
      rw [Lib.count_hit (by simp) h2, hd, Nat.add_comm, Lib.splitK, h2, if_neg (by simp only [beq_iff_eq]; omega), Int.toNat_natCast, hd, Nat.add_zero, ht, h1, ih r (by have := aft_lt h1; omega)]
theorem indexAny_wr : ∀ l : List UInt8, (rst l = [] ∧ Lib.indexAny l [32, 40, 41, 123, 125] = -1) ∨ (rst l ≠ [] ∧ Lib.indexAny l [32, 40, 41, 123, 125] = ((wrd l).length : Int))
  | [] => .inl ⟨rfl, rfl⟩
  | b :: l => by
    unfold rst wrd
    rw [List.dropWhile, List.takeWhile, Lib.indexAny]
    cases hb : dlm b with
    | true =>
      rw [if_pos (by exact hb)]
      exact .inr ⟨by simp, rfl⟩
    | false =>
      rw [if_neg (by rw [show ([32, 40, 41, 123, 125] : List UInt8).contains b = false from hb]; simp)]
      rcases indexAny_wr l with ⟨h1, h2⟩ | ⟨h1, h2⟩
      · left
        exact ⟨h1, by rw [h2]; rfl⟩
      · right
        refine ⟨h1, ?_⟩
        rw [h2, if_neg (by simp only [beq_iff_eq]; omega)]
        simp only [Bool.not_false, List.length_cons]
        unfold wrd; omega
theorem trim_mk (l : List UInt8) : (⟨(Lib.trimLeftB (mkB l).data.toList 32).toArray⟩ : ByteArray) = mkB (skp l) := by rw [mkB_list]; rfl
theorem blanks_tr (l : List UInt8) (bad : Bool) : Tr (fun m => m_impl_scan_blanks m ⟨mkB l, bad⟩) (decide ((skp l).length < l.length), ⟨mkB (skp l), bad⟩) := by
  refine Tr.of (fun m => ?_)
  unfold m_impl_scan_blanks m_strings_TrimLeft
  rw [show (decide ((⟨#[32]⟩ : ByteArray) = ⟨#[32]⟩)) = true from decide_eq_true rfl]
  simp only [chk, cond_true, Option.bind_some, trim_mk, mkB_size]
  congr 2
  rw [Bool.eq_iff_iff, decide_eq_true_iff, decide_eq_true_iff]; omega
theorem mkB_empty {l : List UInt8} : (decide (mkB l = (⟨#[]⟩ : ByteArray))) = decide (l = []) := by
  rw [Bool.eq_iff_iff, decide_eq_true_iff, decide_eq_true_iff]
  exact ⟨fun h => mkB_inj (b := []) h, fun h => by rw [h]; rfl⟩
theorem word_tr (l : List UInt8) (hl : l.length ≤ 2 ^ 30) (bad : Bool) : Tr (fun m => m_impl_scan_word m ⟨mkB l, bad⟩) (mkB (wrd l), ⟨mkB (rst l), bad⟩) := by
  have hw := wrd_le l
  have fin : Tr (fun m => m_impl_scan_word_j1 m ⟨mkB l, bad⟩ ((wrd l).length : Int)) (mkB (wrd l), ⟨mkB (rst l), bad⟩) := by
    refine Tr.step (fun m => by rw [m_impl_scan_word_j1]) (Tr.of fun m => ?_)
    dsimp only
    rw [show (0 : Int) = ((0 : Nat) : Int) from rfl, bsub_mk l (Nat.zero_le _) hw, Option.bind_some, mkB_size, bsub_mk l hw (Nat.le_refl _), Option.bind_some, List.take_length, List.drop_zero, ← wrd_take, ← rst_drop]
  have hi : ∀ m, m_strings_IndexAny m (mkB l) (⟨#[32, 40, 41, 123, 125]⟩ : ByteArray) = some (Lib.indexAny l [32, 40, 41, 123, 125]) := fun m => by
    unfold m_strings_IndexAny
    rw [mkB_size, decide_eq_true (by omega), decide_eq_true rfl, mkB_list]
    rfl
  refine Tr.eq (fun m => by unfold m_impl_scan_word; rfl) (Tr.bind (Tr.of hi) ?_)
  rcases indexAny_wr l with ⟨h1, h2⟩ | ⟨h1, h2⟩
  · refine Tr.tt (decide_eq_true (by omega)) ?_
    have e : (wrd l).length = l.length := by
      have := congrArg List.length (wrd_rst l)
      rw [h1, List.append_nil] at this; exact this
    rw [e] at fin
    exact Tr.eq (fun m => by dsimp only; rw [mkB_size]) fin
  · refine Tr.ff (decide_eq_false (by omega)) ?_
    exact Tr.eq (fun m => by rw [h2]) fin
def pfx (l : List UInt8) : ByteArray × Bool := match l with | 123 :: r => (mkB r, true) | _ => (mkB l, false)
theorem pfx_no {l : List UInt8} (h : l.head? ≠ some 123) : pfx l = (mkB l, false) := by
  unfold pfx
  split
  · exact absurd rfl h
  · rfl
theorem prefix_tr (l : List UInt8) : Tr (fun m => m_strings_CutPrefix m (mkB l) (⟨#[123]⟩ : ByteArray)) (pfx l) := by
  refine Tr.of (fun m => ?_)
  unfold m_strings_CutPrefix
  rw [mkB_list]
  refine congrArg some ?_
  unfold Lib.trimPrefix Lib.hasPrefix
  cases l with
  | nil => rfl
  | cons c r =>
    by_cases h : c = 123
    · subst h; rfl
    · have hp : (⟨#[123]⟩ : ByteArray).data.toList.isPrefixOf (c :: r) = false := by
        show ([123] : List UInt8).isPrefixOf (c :: r) = false
        rw [List.isPrefixOf, beq_eq_false_iff_ne.2 (fun e => h e.symm), Bool.false_and]
      rw [hp]
      rw [pfx_no (by simpa using h)]; rfl
theorem cut_tr (l : List UInt8) (hl : l.length ≤ 2 ^ 30) : Tr (fun m => m_strings_Cut m (mkB l) (⟨#[125]⟩ : ByteArray)) (match aft 125 l with | [] => (mkB l, mkB [], false) | _ :: r => (mkB (bef 125 l), mkB r, true)) := by
  refine Tr.of (fun m => ?_)
  unfold m_strings_Cut
  rw [mkB_list, mkB_size, decide_eq_true (by omega), show (⟨#[125]⟩ : ByteArray).data.toList = [125] from rfl, cut_ba]
  simp only [chk, cond_true]
  cases aft 125 l <;> rfl
theorem split_tr (l : List UInt8) (hl : l.length ≤ 2 ^ 30) : Tr (fun m => m_strings_Split m (mkB l) (⟨#[44]⟩ : ByteArray)) ((cutAt 44 l).map mkB) := by
  have hd := Lib.splitB_data (⟨#[44]⟩ : ByteArray) 0 (Lib.countB (mkB l) ⟨#[44]⟩) (mkB l)
  have hc : Lib.countB (mkB l) (⟨#[44]⟩ : ByteArray) = Lib.count l [44] := by unfold Lib.countB; rw [mkB_list]
  rw [mkB_list, hc, show (⟨#[44]⟩ : ByteArray).data.toList = [44] from rfl, splitK_cut 44 _ l (Nat.le_refl _)] at hd
  have he : Lib.splitB (⟨#[44]⟩ : ByteArray) 0 (Lib.countB (mkB l) ⟨#[44]⟩) (mkB l) = (cutAt 44 l).map mkB := by
    rw [hc, ← hd, List.map_map]
    conv => lhs; rw [← List.map_id (Lib.splitB _ _ _ _)]
    exact List.map_congr_left (fun x _ => (mkB_of x).symm)
  have hall := Lib.splitB_all (⟨#[44]⟩ : ByteArray) (by decide) 0 _ (mkB l) rfl
  refine Tr.of (fun m => ?_)
  unfold m_strings_Split
  have hlen := cutAt_len 44 l
  rw [mkB_size, decide_eq_true (by omega), decide_eq_true (by decide), decide_eq_true hall, he, decide_eq_true (by rw [List.length_map]; unfold maxLen; omega)]
  rfl
end Go.Abs
end
section
set_option linter.unusedVariables false
set_option linter.unusedSimpArgs false
set_option maxHeartbeats 4000000
namespace Go.Abs
open Go.Lib (itoa decDigits)
abbrev F0 : Form := Form.mk 0 (⟨#[]⟩ : ByteArray) 0 ([] : List Int) ([] : List Form)
abbrev fNum (n : Int) : Form := Form.mk 2 (⟨#[]⟩ : ByteArray) n ([] : List Int) ([] : List Form)
abbrev fName (w : List UInt8) (ns : List Int) : Form := Form.mk 1 (mkB w) 0 ns ([] : List Form)
abbrev fList (ks : List Form) : Form := Form.mk 3 (⟨#[]⟩ : ByteArray) 0 ([] : List Int) ks
def numsOf : List (List UInt8) → Option (List Int)
  | [] => some []
  | w :: r => match numOf w with
    | none => none
    | some n => match numsOf r with
      | none => none
      | some ns => some ((n : Int) :: ns)
def rdSets (t : List UInt8) : Option (List Int × List UInt8) := match aft 125 t with
  | [] => none
  | _ :: r => match numsOf (cutAt 44 (bef 125 t)) with
    | none => none
    | some ns => bif scOk ns then some (ns, r) else none
def rdAtom (s : List UInt8) : Option (Form × List UInt8) :=
  bif decide ((rst s).head? = some 125) then none else
  match numOf (wrd s) with
  | some n => bif decide ((rst s).head? = some 123) then none else some (fNum n, rst s)
  | none => bif nmOk (mkB (wrd s)) then
      (bif decide ((rst s).head? = some 123) then
        (match rdSets (rst s).tail with
        | none => none
        | some p => some (fName (wrd s) p.1, p.2))
      else some (fName (wrd s) [], rst s))
    else none
mutual
def rd : Nat → Nat → List UInt8 → Option (Form × List UInt8)
  | 0, _, _ => none
  | f + 1, d, s => match skp s with
    | [] => none
    | c :: r => bif decide (d = 0) then none else
      bif decide (c = 40) then (match rl f d r [] with | none => none | some p => some (fList p.1, p.2))
      else rdAtom (c :: r)
def rl : Nat → Nat → List UInt8 → List Form → Option (List Form × List UInt8)
  | 0, _, _, _ => none
  | f + 1, d, s, acc => match skp s with
    | [] => none
    | c :: r => bif decide (c = 41) then some (acc, r) else
      match rd f (d - 1) (c :: r) with
      | none => none
      | some p => rl f d p.2 (acc ++ [p.1])
end
def okH (l : List UInt8) : Prop := l = [] ∨ l.head? = some 32 ∨ l.head? = some 40 ∨ l.head? = some 41
def noH (l : List UInt8) : Prop := l.head? = some 123 ∨ l.head? = some 125
theorem rst_head (l : List UInt8) : okH (rst l) ∨ noH (rst l) := by
  induction l with
  | nil => exact .inl (.inl rfl)
  | cons b l ih =>
    unfold rst at *
    rw [List.dropWhile]
    cases hb : dlm b with
    | false => exact ih
    | true =>
      unfold dlm at hb
      simp at hb
      rcases hb with rfl | rfl | rfl | rfl | rfl
      · exact .inl (.inr (.inl rfl))
      · exact .inl (.inr (.inr (.inl rfl)))
      · exact .inl (.inr (.inr (.inr rfl)))
      · exact .inr (.inl rfl)
      · exact .inr (.inr rfl)
theorem nmOk_len {w : List UInt8} (h : nmOk (mkB w) = true) : 1 ≤ w.length ∧ w.length ≤ 12 := by
  unfold nmOk at h
  simp only [Bool.or_eq_true, decide_eq_true_eq, Bool.and_eq_true] at h
  rcases h with h | h | ⟨_, h⟩
  · obtain rfl := mkB_inj (b := [46, 46, 46]) h; decide
  · obtain rfl := mkB_inj (b := [95]) h; decide
  · unfold nmSz at h
    rw [mkB_size] at h
    simp only [Bool.and_eq_true, decide_eq_true_eq] at h
    omega
theorem isOk_list {ks : List Form} {d : Nat} (hd : d ≠ 0) : (fList ks).isOk d = alls (fun x => x.isOk (d - 1)) ks := by
  rw [Form.isOk_eq, decide_eq_false hd]; rfl
theorem isOk_num {n : Int} {d : Nat} (hd : d ≠ 0) : (fNum n).isOk d = (decide (0 ≤ n) && decide (n ≤ 999)) := by
  rw [Form.isOk_eq, decide_eq_false hd]
  show (true && ((decide (0 ≤ n) && decide (n ≤ 999)) && (true && true))) = _
  simp
theorem isOk_nm {w : List UInt8} {ns : List Int} {d : Nat} (hd : d ≠ 0) : (fName w ns).isOk d = (nmOk (mkB w) && scOk ns) := by
  rw [Form.isOk_eq, decide_eq_false hd]
  show (nmOk (mkB w) && (true && (scOk ns && true))) = _
  simp
def ImpOk (e : Option (Form × List UInt8)) (s : List UInt8) (d : Nat) (f : Form) (free : Bool) (sc : scan) : Prop :=
  ∃ l, sc.s = mkB l ∧ l.length ≤ s.length ∧ (sc.bad = false → f.fit ∧ f.w + 1 + 2 * l.length ≤ 2 * s.length) ∧
    match e with
    | some p => f = p.1 ∧ sc.bad = false ∧ l = p.2 ∧ (free = true ∨ okH l)
    | none => sc.bad = true ∨ f.isOk d = false ∨ (free = false ∧ noH l)
def ImpOkL (e : Option (List Form × List UInt8)) (s : List UInt8) (acc : List Form) (d : Nat) (f : Form) (free : Bool) (sc : scan) : Prop :=
  ∃ l, sc.s = mkB l ∧ l.length ≤ s.length ∧ (sc.bad = false → free = true ∧ f.fit ∧ f.w + 1 + 2 * l.length ≤ 2 * s.length + Form.ws acc) ∧
    match e with
    | some p => f = fList p.1 ∧ sc.bad = false ∧ l = p.2
    | none => sc.bad = true ∨ f.isOk d = false
theorem cutAt_mem (c : UInt8) : ∀ (l w : List UInt8), w ∈ cutAt c l → w.length ≤ l.length
  | [], w, h => by simp [cutAt] at h; subst h; exact Nat.le_refl _
  | x :: r, w, h => by
    have ih := cutAt_mem c r
    rw [cutAt] at h
    split at h
    · rcases List.mem_cons.1 h with rfl | h
      · simp
      · have := ih w h; rw [List.length_cons]; omega
    · split at h
      · simp at h; subst h; simp
      · rename_i y ys he
        rw [he] at ih
        rcases List.mem_cons.1 h with rfl | h
        · have := ih y (List.mem_cons_self ..); simp only [List.length_cons]; omega
        · have := ih w (List.mem_cons_of_mem _ h); rw [List.length_cons]; omega
theorem imp_nums (v34 : ByteArray × scan) (v41 : ByteArray × ByteArray × Bool) (ps : List (List UInt8)) (hps : ∀ w ∈ ps, w.length ≤ 2 ^ 40) (hlen : ps.length ≤ 2 ^ 30) :
    ∀ (t : List (List UInt8)) (k : Nat) (bad : Bool) (ns : List Int), ps.drop k = t → k ≤ ps.length → ns.length = k →
      TQ (fun m => m_impl_scan_form_l7 m v34 v41 (ps.map mkB) (k : Int) bad ns) (fun r => ∃ ns' bad', r = (Form.mk 1 v34.1 0 (ns ++ ns') ([] : List Form), true, ⟨v41.2.1, bad'⟩) ∧ ns'.length = t.length ∧ (bad = true → bad' = true) ∧
        (bad = false → match numsOf t with | none => bad' = true | some l => (bad' = false ∧ ns' = l) ∨ (bad' = true ∧ ∃ x ∈ l, (99 : Int) < x))) := by
  intro t
  induction t with
  | nil =>
    intro k bad ns hd hk hn
    have hk' : k = ps.length := by have := List.drop_eq_nil_iff.1 hd; omega
    refine TQ.step (fun m => by rw [m_impl_scan_form_l7, List.length_map, hk', ltN_self, cond_false]) (TQ.val ⟨[], bad, by rw [List.append_nil], rfl, fun h => h, fun h => ?_⟩)
    rw [numsOf]; exact .inl ⟨h, rfl⟩
  | cons w r ih =>
    intro k bad ns hd hk hn
    obtain ⟨hc, hk2, hd2⟩ := dropC hd
    obtain ⟨v, b, h1, h2⟩ := number_tr w (hps w (List.mem_of_getElem? hc)) 99 (by omega)
    have h1 : Tr (fun m => m_impl_number m (mkB w) 99) (v, b) := h1
    have hidx : idx (ps.map mkB) (k : Int) = some (mkB w) := idx_nat (by rw [List.getElem?_map, hc]; rfl)
    refine TQ.step (fun m => by rw [m_impl_scan_form_l7, List.length_map, ltN hk2, cond_true, hidx, Option.bind_some]) (TQ.ev (v := (v, b)) h1 ?_)
    have go : ∀ b2 : Bool, (bad = true → b2 = true) → (bad = false → b2 = !b) → TQ (fun m => m_impl_scan_form_j8 m v34 v41 (ps.map mkB) (k : Int) ns (v, b) b2) (fun r' => ∃ ns' bad', r' = (Form.mk 1 v34.1 0 (ns ++ ns') ([] : List Form), true, ⟨v41.2.1, bad'⟩) ∧ ns'.length = (w :: r).length ∧ (bad = true → bad' = true) ∧
        (bad = false → match numsOf (w :: r) with | none => bad' = true | some l => (bad' = false ∧ ns' = l) ∨ (bad' = true ∧ ∃ x ∈ l, (99 : Int) < x))) := by
      intro b2 hb1 hb2
      refine TQ.step (fun m => by rw [m_impl_scan_form_j8, succN]) (TQ.chk (decide_eq_true (by simp only [List.length_singleton]; omega)) ?_)
      refine TQ.mono (ih (k + 1) b2 (ns ++ [v]) hd2 (by omega) (by rw [List.length_append, List.length_singleton]; omega)) ?_
      rintro r' ⟨ns', bad', rfl, e1, e2, e3⟩
      refine ⟨v :: ns', bad', by rw [List.append_assoc]; rfl, by rw [List.length_cons, List.length_cons, e1], fun h => e2 (hb1 h), fun h => ?_⟩
      have hb := hb2 h
      rw [numsOf]
      cases hn2 : numOf w with
      | none =>
        rw [hn2] at h2
        exact e2 (by rw [hb, h2]; rfl)
      | some n =>
        rw [hn2] at h2
        rcases h2 with ⟨h3, h4, h5⟩ | ⟨h3, h4⟩
        · have e4 := e3 (by rw [hb, h3]; rfl)
          cases hr : numsOf r with
          | none => rw [hr] at e4; exact e4
          | some l =>
            rw [hr] at e4
            rcases e4 with ⟨e5, e6⟩ | ⟨e5, x, e6, e7⟩
            · exact .inl ⟨e5, by rw [e6, h4]⟩
            · exact .inr ⟨e5, x, List.mem_cons_of_mem _ e6, e7⟩
        · have e5 := e2 (by rw [hb, h3]; rfl)
          cases hr : numsOf r with
          | none => exact e5
          | some l => exact .inr ⟨e5, n, List.mem_cons_self .., by omega⟩
    cases bad with
    | true => exact TQ.eq (fun m => by rw [cond_true]) (go true (fun _ => rfl) (fun h => by cases h))
    | false => exact TQ.eq (fun m => by rw [cond_false]) (go (!b) (fun h => by cases h) (fun _ => rfl))
theorem imp_atom (s : List UInt8) (d : Nat) (hd : d ≠ 0) (hs : s.length ≤ 2 ^ 20) (x2 : Int) (b0 : Bool) (c : UInt8) (r : List UInt8) (hsc : s = c :: r) (hc : c ≠ 40) :
    TQ (fun m => m_impl_scan_form_j1 m x2 (b0, ⟨mkB s, false⟩) false) (fun q => ImpOk (rdAtom s) s d q.1 q.2.1 q.2.2) := by
  have hw := wrd_le s
  have hr := rst_le s
  have hwr := congrArg List.length (wrd_rst s)
  rw [List.length_append] at hwr
  refine TQ.step (fun m => by rw [m_impl_scan_form_j1, cond_false]) ?_
  have hbi : Tr (fun _ : Nat => bidx (mkB s) 0) (c.toNat : Int) := Tr.of fun m => bidx_mk (w := s) (k := 0) (x := c) (by rw [hsc]; rfl)
  refine TQ.ev hbi ?_
  have hc40 : ¬ (c.toNat : Int) = 40 := fun e => by
    have e2 : c.toNat = 40 := by omega
    exact hc (UInt8.toNat_inj.1 (by rw [e2]; rfl))
  refine TQ.eq (fun m => by rw [decide_eq_false hc40, cond_false]) (TQ.ev (word_tr s (by omega) false) ?_)
  obtain ⟨v, b, h1, h2⟩ := number_tr (wrd s) (by omega) 999 (Nat.le_refl _)
  have h1 : Tr (fun m => m_impl_number m (mkB (wrd s)) 999) (v, b) := h1
  refine TQ.ev h1 ?_
  dsimp only
  cases hn : numOf (wrd s) with
  | some n =>
    rw [hn] at h2
    obtain ⟨hn9, hdec⟩ := numOf_some.1 hn
    rcases h2 with ⟨rfl, rfl, _⟩ | ⟨_, h3⟩
    · have hw1 : 1 ≤ (wrd s).length := by
        rw [← hdec]
        cases hx : decDigits n with
        | nil => exact absurd hx (decD_ne n)
        | cons _ _ => simp
      refine TQ.eq (fun m => by rw [cond_true]) (TQ.val ⟨rst s, rfl, hr, fun _ => ⟨by simp [Form.fit, Form.fits]; decide, by show 1 + 0 + 0 + 1 + 2 * (rst s).length ≤ 2 * s.length; omega⟩, ?_⟩)
      unfold rdAtom
      by_cases h125 : (rst s).head? = some 125
      · rw [decide_eq_true h125, cond_true]; exact .inr (.inr ⟨rfl, .inr h125⟩)
      · rw [decide_eq_false h125, cond_false, hn]
        dsimp only
        by_cases h123 : (rst s).head? = some 123
        · rw [decide_eq_true h123, cond_true]; exact .inr (.inr ⟨rfl, .inl h123⟩)
        · rw [decide_eq_false h123, cond_false]
          refine ⟨rfl, rfl, rfl, .inr ?_⟩
          rcases rst_head s with h | h | h
          · exact h
          · exact absurd h h123
          · exact absurd h h125
    · omega
  | none =>
    rw [hn] at h2
    subst h2
    refine TQ.eq (fun m => by rw [cond_false]) (TQ.ev (implNm_tr (mkB (wrd s)) (by rw [mkB_size]; omega)) ?_)
    cases hnm : nmOk (mkB (wrd s)) with
    | false =>
      refine TQ.eq (fun m => by rw [Bool.not_false, cond_true]) (TQ.val (v := (F0, false, ⟨mkB (rst s), true⟩)) ⟨rst s, rfl, hr, fun h => (by cases h), ?_⟩)
      have : rdAtom s = none := by
        unfold rdAtom
        rw [hn, hnm]
        cases decide ((rst s).head? = some 125) <;> rfl
      rw [this]
      exact .inl rfl
    | true =>
      have hw1 := nmOk_len hnm
      refine TQ.eq (fun m => by rw [Bool.not_true, cond_false]) (TQ.ev (prefix_tr (rst s)) ?_)
      have hat : rdAtom s = bif decide ((rst s).head? = some 125) then none else (bif decide ((rst s).head? = some 123) then
        (match rdSets (rst s).tail with
        | none => none
        | some p => some (fName (wrd s) p.1, p.2))
      else some (fName (wrd s) [], rst s)) := by
        unfold rdAtom; rw [hn, hnm]; rfl
      rw [hat]
      by_cases h123 : (rst s).head? = some 123
      · obtain ⟨t, ht⟩ : ∃ t, rst s = 123 :: t := by
          cases hx : rst s with
          | nil => rw [hx] at h123; cases h123
          | cons y t => rw [hx] at h123; simp at h123; subst h123; exact ⟨t, rfl⟩
        rw [ht] at hr hwr ⊢
        rw [List.length_cons] at hwr
        rw [decide_eq_false (show ¬ (123 :: t : List UInt8).head? = some 125 by simp), cond_false, decide_eq_true (show (123 :: t : List UInt8).head? = some 123 from rfl), cond_true]
        rw [show pfx (123 :: t) = (mkB t, true) from rfl]
        refine TQ.eq (fun m => by rw [Bool.not_true, cond_false]) (TQ.ev (cut_tr t (by omega)) ?_)
        cases ha : aft 125 t with
        | nil =>
          refine TQ.eq (fun m => by rw [cond_false]) (TQ.step (fun m => by rw [m_impl_scan_form_j6]) (TQ.ev (split_tr t (by omega)) ?_))
          refine TQ.mono (imp_nums _ _ (cutAt 44 t) (fun w hw => by have := cutAt_mem 44 t w hw; omega) (by have := cutAt_len 44 t; omega) _ 0 _ [] rfl (Nat.zero_le _) rfl) ?_
          rintro q ⟨ns, bad', rfl, e1, e2, e3⟩
          obtain rfl := e2 rfl
          have : rdSets (123 :: t : List UInt8).tail = none := by
            unfold rdSets; rw [List.tail_cons, ha]
          rw [this]
          exact ⟨[], rfl, Nat.zero_le _, fun h => (by cases h), .inl rfl⟩
        | cons y r2 =>
          have hlt := aft_lt ha
          refine TQ.eq (fun m => by rw [cond_false]) (TQ.step (fun m => by rw [m_impl_scan_form_j6]) (TQ.ev (split_tr (bef 125 t) (by omega)) ?_))
          have hcl := cutAt_len 44 (bef 125 t)
          refine TQ.mono (imp_nums _ _ (cutAt 44 (bef 125 t)) (fun w hw => by have := cutAt_mem 44 _ w hw; omega) (by omega) _ 0 _ [] rfl (Nat.zero_le _) rfl) ?_
          rintro q ⟨ns, bad', rfl, e1, e2, e3⟩
          have e3 := e3 rfl
          rw [List.drop_zero] at e1 e3
          have hsets : rdSets (123 :: t : List UInt8).tail = match numsOf (cutAt 44 (bef 125 t)) with | none => none | some ns => bif scOk ns then some (ns, r2) else none := by
            unfold rdSets; rw [List.tail_cons, ha]
          rw [hsets, List.nil_append]
          refine ⟨r2, rfl, by omega, fun _ => ⟨?_, ?_⟩, ?_⟩
          · simp only [Form.fit, Form.fits, and_true, mkB_size, List.length_nil]; omega
          · show 1 + ns.length + 0 + 1 + 2 * r2.length ≤ 2 * s.length
            omega
          · cases hno : numsOf (cutAt 44 (bef 125 t)) with
            | none => rw [hno] at e3; exact .inl e3
            | some l =>
              rw [hno] at e3
              dsimp only
              rcases e3 with ⟨rfl, rfl⟩ | ⟨e5, x, e6, e7⟩
              · cases hsc2 : scOk ns with
                | true => exact ⟨rfl, rfl, rfl, .inl rfl⟩
                | false => exact .inr (.inl (by rw [isOk_nm hd, hsc2, Bool.and_false]))
              · cases hsc2 : scOk l with
                | true => have := (scOk_all hsc2).1 x e6; omega
                | false => exact .inl e5
      · have hpre := pfx_no h123
        rw [hpre, decide_eq_false h123, cond_false]
        refine TQ.eq (fun m => by rw [Bool.not_false, cond_true]) (TQ.val ⟨rst s, rfl, hr, fun _ => ⟨?_, ?_⟩, ?_⟩)
        · simp only [Form.fit, Form.fits, and_true, mkB_size, List.length_nil]; omega
        · show 1 + 0 + 0 + 1 + 2 * (rst s).length ≤ 2 * s.length
          omega
        · by_cases h125 : (rst s).head? = some 125
          · rw [decide_eq_true h125, cond_true]; exact .inr (.inr ⟨rfl, .inr h125⟩)
          · rw [decide_eq_false h125, cond_false]
            refine ⟨rfl, rfl, rfl, .inr ?_⟩
            rcases rst_head s with h | h | h
            · exact h
            · exact absurd h h123
            · exact absurd h h125
theorem rdAtom_ok {s : List UInt8} {p : Form × List UInt8} {d : Nat} (hd : d ≠ 0) (h : rdAtom s = some p) : p.1.isOk d = true := by
  unfold rdAtom at h
  cases h125 : decide ((rst s).head? = some 125) with
  | true => rw [h125] at h; cases h
  | false =>
    rw [h125, cond_false] at h
    cases hn : numOf (wrd s) with
    | some n =>
      rw [hn] at h
      dsimp only at h
      cases h123 : decide ((rst s).head? = some 123) with
      | true => rw [h123] at h; cases h
      | false =>
        rw [h123, cond_false] at h; cases h
        rw [isOk_num hd, decide_eq_true (by omega), decide_eq_true (by have := (numOf_some.1 hn).1; omega)]; rfl
    | none =>
      rw [hn] at h
      dsimp only at h
      cases hnm : nmOk (mkB (wrd s)) with
      | false => rw [hnm] at h; cases h
      | true =>
        rw [hnm, cond_true] at h
        cases h123 : decide ((rst s).head? = some 123) with
        | true =>
          rw [h123, cond_true] at h
          cases hs : rdSets (rst s).tail with
          | none => rw [hs] at h; cases h
          | some q =>
            rw [hs] at h; cases h
            rw [isOk_nm hd, hnm]
            unfold rdSets at hs
            split at hs
            · cases hs
            · split at hs
              · cases hs
              · rename_i ns _
                cases hsc : scOk ns with
                | false => rw [hsc] at hs; cases hs
                | true => rw [hsc, cond_true] at hs; cases hs; rw [hsc]; rfl
        | false =>
          rw [h123, cond_false] at h; cases h
          rw [isOk_nm hd, hnm]; rfl
theorem alls_app {α : Type} (D : α → Bool) (a b : List α) : alls D (a ++ b) = (alls D a && alls D b) := by
  rw [Bool.eq_iff_iff, Bool.and_eq_true, alls_iff, alls_iff, alls_iff]
  constructor
  · exact fun h => ⟨fun x hx => h x (List.mem_append_left _ hx), fun x hx => h x (List.mem_append_right _ hx)⟩
  · rintro ⟨h1, h2⟩ x hx
    rcases List.mem_append.1 hx with h | h
    · exact h1 x h
    · exact h2 x h
theorem rd_ok : ∀ f : Nat, (∀ d s p, rd f d s = some p → p.1.isOk d = true) ∧ (∀ d s acc p, d ≠ 0 → alls (fun x => x.isOk (d - 1)) acc = true → rl f d s acc = some p → alls (fun x => x.isOk (d - 1)) p.1 = true) := by
  intro f
  induction f with
  | zero => exact ⟨fun d s p h => (by rw [rd] at h; cases h), fun d s acc p _ _ h => (by rw [rl] at h; cases h)⟩
  | succ f ih =>
    refine ⟨fun d s p h => ?_, fun d s acc p hd ha h => ?_⟩
    · rw [rd] at h
      split at h
      · cases h
      · rename_i c r _
        by_cases hd : d = 0
        · rw [decide_eq_true hd] at h; cases h
        · rw [decide_eq_false hd, cond_false] at h
          cases hc : decide (c = 40) with
          | true =>
            rw [hc, cond_true] at h
            cases hl : rl f d r [] with
            | none => rw [hl] at h; cases h
            | some q =>
              rw [hl] at h; cases h
              rw [isOk_list hd]
              exact ih.2 d r [] q hd rfl hl
          | false => rw [hc, cond_false] at h; exact rdAtom_ok hd h
    · rw [rl] at h
      split at h
      · cases h
      · rename_i c r _
        cases hc : decide (c = 41) with
        | true => rw [hc, cond_true] at h; cases h; exact ha
        | false =>
          rw [hc, cond_false] at h
          cases hr : rd f (d - 1) (c :: r) with
          | none => rw [hr] at h; cases h
          | some q =>
            rw [hr] at h
            refine ih.2 d q.2 _ p hd ?_ h
            rw [alls_app, ha, Bool.true_and, alls, ih.1 _ _ _ hr]; rfl
theorem imp_bad (x2 : Int) (free : Bool) (s : List UInt8) (acc : List Form) : Tr (fun m => m_impl_scan_form_l2 m x2 free (mkB s) true acc) (F0, false, ⟨mkB (skp s), true⟩) := by
  refine Tr.step (fun m => by rw [m_impl_scan_form_l2]) (Tr.bind (blanks_tr s true) ?_)
  have h : ∀ b, Tr (fun m => m_impl_scan_form_j3 m x2 acc b (mkB (skp s)) true) (F0, false, ⟨mkB (skp s), true⟩) := fun b =>
    Tr.step (fun m => by rw [m_impl_scan_form_j3, cond_true]) (Tr.step (fun m => by rw [m_impl_scan_form_j4, cond_true]) Tr.val)
  dsimp only
  cases decide ((skp s).length < s.length) with
  | true => exact Tr.tt rfl (h true)
  | false => exact Tr.ff rfl (h free)
theorem ImpOk.mono {e : Option (Form × List UInt8)} {s s' : List UInt8} {d : Nat} {f : Form} {free : Bool} {sc : scan} (h : ImpOk e s d f free sc) (hs : s.length ≤ s'.length) : ImpOk e s' d f free sc := by
  obtain ⟨l, h1, h2, h3, h4⟩ := h
  exact ⟨l, h1, by omega, fun hb => ⟨(h3 hb).1, by have := (h3 hb).2; omega⟩, h4⟩
theorem w_pos' (f : Form) : 1 ≤ f.w := by obtain ⟨a, b, c, d, e⟩ := f; rw [Form.w]; omega
theorem byte_ne {c : UInt8} {k : Nat} (hk : k < 256) (h : c ≠ UInt8.ofNat k) : ¬ (c.toNat : Int) = (k : Int) := fun e => h (UInt8.toNat_inj.1 (by rw [UInt8.toNat_ofNat']; omega))
theorem imp_read : ∀ f : Nat,
    (∀ (d : Nat) (s : List UInt8), d ≤ 40 → s.length ≤ 2 ^ 20 → 2 * s.length ≤ f → TQ (fun m => m_impl_scan_form m ⟨mkB s, false⟩ (41 - (d : Int))) (fun q => ImpOk (rd f d s) s d q.1 q.2.1 q.2.2)) ∧
    (∀ (d : Nat) (s : List UInt8) (acc : List Form) (free : Bool) (e : Option (List Form × List UInt8)), d ≤ 40 → d ≠ 0 → s.length ≤ 2 ^ 20 → 2 * s.length + 1 ≤ f → Form.fits acc → Form.ws acc + 2 * s.length ≤ 2 ^ 22 →
      ((e = none ∧ (alls (fun x => x.isOk (d - 1)) acc = false ∨ (free = false ∧ noH s))) ∨ (e = rl f d s acc ∧ alls (fun x => x.isOk (d - 1)) acc = true ∧ (free = true ∨ okH s))) →
      TQ (fun m => m_impl_scan_form_l2 m (41 - (d : Int)) free (mkB s) false acc) (fun q => ImpOkL e s acc d q.1 q.2.1 q.2.2)) := by
  intro f
  induction f with
  | zero =>
    refine ⟨fun d s hd hs hf => ?_, fun d s acc free e hd hd0 hs hf => by omega⟩
    obtain rfl := List.eq_nil_of_length_eq_zero (l := s) (by omega)
    refine TQ.step (fun m => by rw [m_impl_scan_form]) (TQ.ev (blanks_tr [] false) ?_)
    refine TQ.eq (fun m => by rw [show (decide ((((decide ((skp []).length < ([] : List UInt8).length), ({ s := mkB (skp []), bad := false } : scan)) : Bool × scan).2).s = (⟨#[]⟩ : ByteArray))) = true from decide_eq_true rfl, cond_true]) ?_
    refine TQ.step (fun m => by rw [m_impl_scan_form_j1, cond_true]) (TQ.val ⟨[], rfl, Nat.le_refl _, fun h => (by cases h), ?_⟩)
    rw [rd]; exact .inl rfl
  | succ f ih =>
    refine ⟨fun d s hd hs hf => ?_, fun d s acc free e hd hd0 hs hf hfit hws he => ?_⟩
    · have hk := skp_le s
      refine TQ.step (fun m => by rw [m_impl_scan_form]) (TQ.ev (blanks_tr s false) ?_)
      rw [rd]
      dsimp only
      generalize decide ((skp s).length < s.length) = b0
      cases hsk : skp s with
      | nil =>
        refine TQ.eq (fun m => by rw [show (decide (mkB [] = (⟨#[]⟩ : ByteArray))) = true from decide_eq_true rfl, cond_true]) ?_
        exact TQ.step (fun m => by rw [m_impl_scan_form_j1, cond_true]) (TQ.val ⟨[], rfl, Nat.zero_le _, fun h => (by cases h), .inl rfl⟩)
      | cons c r =>
        rw [hsk, List.length_cons] at hk
        dsimp only
        refine TQ.eq (fun m => by rw [mkB_empty, decide_eq_false (by simp), cond_false]) ?_
        by_cases hd0 : d = 0
        · subst hd0
          rw [decide_eq_true rfl, cond_true]
          refine TQ.eq (fun m => by rw [decide_eq_true (by omega)]) ?_
          exact TQ.step (fun m => by rw [m_impl_scan_form_j1, cond_true]) (TQ.val ⟨c :: r, rfl, by rw [List.length_cons]; omega, fun h => (by cases h), .inl rfl⟩)
        · rw [decide_eq_false hd0, cond_false]
          refine TQ.eq (fun m => by rw [decide_eq_false (by omega)]) ?_
          by_cases hc : c = 40
          · subst hc
            rw [decide_eq_true rfl, cond_true]
            refine TQ.step (fun m => by rw [m_impl_scan_form_j1, cond_false]) ?_
            have hbi : Tr (fun _ : Nat => bidx (mkB (40 :: r)) 0) 40 := Tr.of fun m => bidx_mk (w := 40 :: r) (k := 0) (x := 40) rfl
            have hbs : Tr (fun _ : Nat => bsub (mkB (40 :: r)) 1 ((mkB (40 :: r)).size : Int)) (mkB r) := Tr.of fun m => by
              rw [mkB_size]; have := bsub_mk (40 :: r) (i := 1) (j := (40 :: r : List UInt8).length) (by simp) (Nat.le_refl _); rw [List.take_length] at this; exact this
            refine TQ.ev hbi (TQ.eq (fun m => by rw [show decide ((40 : Int) = 40) = true from rfl, cond_true]) (TQ.ev hbs ?_))
            refine TQ.mono ((ih.2 d r [] true (rl f d r []) hd hd0 (by omega) (by omega) Form.fits_nil (by rw [Form.ws]; omega) (.inr ⟨rfl, rfl, .inl rfl⟩))) ?_
            rintro ⟨g, fr, sc⟩ ⟨l, h1, h2, h3, h4⟩
            refine ⟨l, h1, by omega, fun hb => ⟨(h3 hb).2.1, by have := (h3 hb).2.2; rw [Form.ws] at this; omega⟩, ?_⟩
            cases hrl : rl f d r [] with
            | none =>
              rw [hrl] at h4
              rcases h4 with h4 | h4
              · exact .inl h4
              · exact .inr (.inl h4)
            | some p =>
              rw [hrl] at h4
              exact ⟨h4.1, h4.2.1, h4.2.2, .inl (h3 h4.2.1).1⟩
          · rw [decide_eq_false hc, cond_false]
            exact TQ.mono (imp_atom (c :: r) d hd0 (by rw [List.length_cons]; omega) _ b0 c r rfl hc) (fun q hq => hq.mono (by rw [List.length_cons]; omega))
    · have hk := skp_le s
      refine TQ.step (fun m => by rw [m_impl_scan_form_l2]) (TQ.ev (blanks_tr s false) ?_)
      dsimp only
      -- what is known behind the blanks
      have key : ∀ fr : Bool, ((e = none ∧ (alls (fun x => x.isOk (d - 1)) acc = false ∨ (fr = false ∧ noH (skp s)))) ∨ (e = rl (f + 1) d s acc ∧ alls (fun x => x.isOk (d - 1)) acc = true ∧ (fr = true ∨ okH (skp s)))) →
          TQ (fun m => m_impl_scan_form_j3 m (41 - (d : Int)) acc fr (mkB (skp s)) false) (fun q => ImpOkL e s acc d q.1 q.2.1 q.2.2) := by
        intro fr hfr
        refine TQ.step (fun m => by rw [m_impl_scan_form_j3, cond_false]) ?_
        have hrl : rl (f + 1) d s acc = match skp s with
          | [] => none
          | c :: r => bif decide (c = 41) then some (acc, r) else
            match rd f (d - 1) (c :: r) with
            | none => none
            | some p => rl f d p.2 (acc ++ [p.1]) := by rw [rl]
        rw [hrl] at hfr
        cases hsk : skp s with
        | nil =>
          rw [hsk] at hfr
          refine TQ.eq (fun m => by rw [show (decide (mkB [] = (⟨#[]⟩ : ByteArray))) = true from decide_eq_true rfl]) ?_
          refine TQ.step (fun m => by rw [m_impl_scan_form_j4, cond_true]) (TQ.val ⟨[], rfl, Nat.zero_le _, fun h => (by cases h), ?_⟩)
          have : e = none := by
            rcases hfr with h | h
            · exact h.1
            · exact h.1
          rw [this]; exact .inl rfl
        | cons c r =>
          rw [hsk, List.length_cons] at hk
          rw [hsk] at hfr
          dsimp only at hfr
          have hc32 := skp_head hsk
          refine TQ.eq (fun m => by rw [mkB_empty, decide_eq_false (by simp)]) (TQ.step (fun m => by rw [m_impl_scan_form_j4, cond_false]) ?_)
          have hbi : Tr (fun _ : Nat => bidx (mkB (c :: r)) 0) (c.toNat : Int) := Tr.of fun m => bidx_mk (w := c :: r) (k := 0) (x := c) rfl
          refine TQ.ev hbi ?_
          by_cases hc : c = 41
          · subst hc
            have hbs : Tr (fun _ : Nat => bsub (mkB (41 :: r)) 1 ((mkB (41 :: r)).size : Int)) (mkB r) := Tr.of fun m => by
              rw [mkB_size]; have := bsub_mk (41 :: r) (i := 1) (j := (41 :: r : List UInt8).length) (by simp) (Nat.le_refl _); rw [List.take_length] at this; exact this
            refine TQ.eq (fun m => by rw [show decide (((41 : UInt8).toNat : Int) = 41) = true from rfl, cond_true]) (TQ.ev hbs ?_)
            refine TQ.val (v := (fList acc, true, scan.mk (mkB r) false)) ?_
            refine ⟨r, rfl, by omega, fun _ => ⟨rfl, ?_, ?_⟩, ?_⟩
            · show (fList acc).fit
              rw [Form.fit]
              have := Form.ws_len acc
              exact ⟨by decide, by decide, by omega, hfit⟩
            · show 1 + 0 + Form.ws acc + 1 + 2 * r.length ≤ 2 * s.length + Form.ws acc
              omega
            · rw [decide_eq_true rfl, cond_true] at hfr
              rcases hfr with ⟨rfl, h | ⟨_, h | h⟩⟩ | ⟨rfl, _⟩
              · exact .inr (by rw [isOk_list hd0]; exact h)
              · exact absurd (Option.some.inj h) (by decide)
              · exact absurd (Option.some.inj h) (by decide)
              · exact ⟨rfl, rfl, rfl⟩
          · have hc41 : ¬ (c.toNat : Int) = 41 := byte_ne (k := 41) (by decide) hc
            rw [decide_eq_false hc, cond_false] at hfr
            refine TQ.eq (fun m => by rw [decide_eq_false hc41, cond_false]) ?_
            -- one more form is read
            have go : ((e = none ∧ alls (fun x => x.isOk (d - 1)) acc = false) ∨ (e = (match rd f (d - 1) (c :: r) with | none => none | some p => rl f d p.2 (acc ++ [p.1])) ∧ alls (fun x => x.isOk (d - 1)) acc = true)) →
                TQ (fun m => m_impl_scan_form_j5 m (41 - (d : Int)) acc (mkB (c :: r)) false false) (fun q => ImpOkL e s acc d q.1 q.2.1 q.2.2) := by
              intro hst
              have hI := ih.1 (d - 1) (c :: r) (by omega) (by rw [List.length_cons]; omega) (by rw [List.length_cons]; omega)
              rw [show (41 : Int) - ((d - 1 : Nat) : Int) = 41 - (d : Int) + 1 by omega] at hI
              refine TQ.step (fun m => by rw [m_impl_scan_form_j5, cond_false, w64_in (by omega)]) (TQ.bind hI ?_)
              rintro ⟨k, nx, sc⟩ ⟨l, h1, h2, h3, h4⟩
              have hal := Form.ws_len acc
              refine TQ.chk (decide_eq_true (by simp only [List.length_singleton]; omega)) ?_
              obtain ⟨s1, bad⟩ := sc
              dsimp only at h1 h3 h4 ⊢
              subst h1
              rw [List.length_cons] at h2 h3
              cases bad with
              | true =>
                refine TQ.mono (Q := fun q => q = (F0, false, ⟨mkB (skp l), true⟩)) ⟨_, imp_bad _ _ _ _, rfl⟩ ?_
                rintro q rfl
                refine ⟨skp l, rfl, by have := skp_le l; omega, fun h => (by cases h), ?_⟩
                have : e = none := by
                  rcases hst with h | h
                  · exact h.1
                  · rw [h.1]
                    cases hrd : rd f (d - 1) (c :: r) with
                    | none => rfl
                    | some p => rw [hrd] at h4; cases h4.2.1
                rw [this]; exact .inl rfl
              | false =>
                obtain ⟨k1, k2⟩ := h3 rfl
                have kp := w_pos' k
                have hl : ∀ e', e' = e → ((e' = none ∧ (alls (fun x => x.isOk (d - 1)) (acc ++ [k]) = false ∨ (nx = false ∧ noH l))) ∨ (e' = rl f d l (acc ++ [k]) ∧ alls (fun x => x.isOk (d - 1)) (acc ++ [k]) = true ∧ (nx = true ∨ okH l))) := by
                  rintro e' rfl
                  rcases hst with ⟨h, h'⟩ | ⟨h, h'⟩
                  · exact .inl ⟨h, .inl (by rw [alls_app, h']; rfl)⟩
                  · cases hrd : rd f (d - 1) (c :: r) with
                    | none =>
                      rw [hrd] at h h4
                      rcases h4 with h4 | h4 | h4
                      · cases h4
                      · exact .inl ⟨h, .inl (by rw [alls_app, h', alls, h4]; rfl)⟩
                      · exact .inl ⟨h, .inr h4⟩
                    | some p =>
                      rw [hrd] at h h4
                      obtain ⟨rfl, _, rfl, h5⟩ := h4
                      exact .inr ⟨h, by rw [alls_app, h', alls, (rd_ok f).1 _ _ _ hrd]; rfl, h5⟩
                have hwa : Form.ws (acc ++ [k]) = Form.ws acc + (1 + k.w) := by rw [Form.ws_append]; rfl
                refine TQ.mono (ih.2 d l (acc ++ [k]) nx e hd hd0 (by omega) (by omega) (Form.fits_app hfit (Form.fits_one k1)) (by omega) (hl e rfl)) ?_
                rintro ⟨g, fr2, sc2⟩ ⟨l2, g1, g2, g3, g4⟩
                exact ⟨l2, g1, by omega, fun hb => ⟨(g3 hb).1, (g3 hb).2.1, by have := (g3 hb).2.2; omega⟩, g4⟩
            cases fr with
            | true =>
              refine TQ.eq (fun m => by rw [Bool.not_true, cond_false]) (go ?_)
              rcases hfr with ⟨h, h' | ⟨h', _⟩⟩ | ⟨h, h', _⟩
              · exact .inl ⟨h, h'⟩
              · cases h'
              · exact .inr ⟨h, h'⟩
            | false =>
              refine TQ.eq (fun m => by rw [Bool.not_false, cond_true]) (TQ.ev hbi ?_)
              by_cases h40 : c = 40
              · subst h40
                refine TQ.eq (fun m => by rw [show decide (((40 : UInt8).toNat : Int) ≠ 40) = false from rfl]) (go ?_)
                rcases hfr with ⟨h, h' | ⟨_, h' | h'⟩⟩ | ⟨h, h', _⟩
                · exact .inl ⟨h, h'⟩
                · exact absurd (Option.some.inj h') (by decide)
                · exact absurd (Option.some.inj h') (by decide)
                · exact .inr ⟨h, h'⟩
              · have hc40 : (c.toNat : Int) ≠ 40 := byte_ne (k := 40) (by decide) h40
                refine TQ.eq (fun m => by rw [decide_eq_true hc40]) ?_
                refine TQ.step (fun m => by rw [m_impl_scan_form_j5, cond_true]) (TQ.val ⟨c :: r, rfl, by rw [List.length_cons]; omega, fun h => (by cases h), ?_⟩)
                have : e = none := by
                  rcases hfr with h | ⟨h, h', h2 | h2⟩
                  · exact h.1
                  · cases h2
                  · rcases h2 with h2 | h2 | h2 | h2 <;> simp at h2
                    · exact absurd h2 hc32
                    · exact absurd h2 h40
                    · exact absurd h2 hc
                rw [this]; exact .inl rfl
      have hsame : ¬ (skp s).length < s.length → skp s = s := fun h => by
        have h1 := skp_sub s
        rw [show s.length - (skp s).length = 0 by omega] at h1; exact h1
      by_cases hb : (skp s).length < s.length
      · refine TQ.eq (fun m => by rw [decide_eq_true hb, cond_true]) (key true ?_)
        rcases he with ⟨h, h' | ⟨_, h'⟩⟩ | ⟨h, h', _⟩
        · exact .inl ⟨h, .inl h'⟩
        · exfalso
          cases s with
          | nil => rcases h' with h' | h' <;> cases h'
          | cons y t =>
            have hy : y ≠ 32 := fun e => by subst e; rcases h' with h' | h' <;> simp at h'
            rw [skp_cons, if_neg hy] at hb; omega
        · exact .inr ⟨h, h', .inl rfl⟩
      · refine TQ.eq (fun m => by rw [decide_eq_false hb, cond_false]) (key free ?_)
        rw [hsame hb]
        exact he
end Go.Abs
end
section
set_option linter.unusedVariables false
set_option linter.unusedSimpArgs false
set_option maxHeartbeats 4000000
namespace Go.Abs
open Go.Lib (itoa decDigits)
theorem byte_ne' {c : UInt8} {k : Nat} (hk : k < 256) : ((c.toNat : Int) = (k : Int)) ↔ c = UInt8.ofNat k := by
  constructor
  · intro h
    exact UInt8.toNat_inj.1 (by rw [UInt8.toNat_ofNat']; omega)
  · rintro rfl
    rw [UInt8.toNat_ofNat']; omega
theorem dec_byte (c : UInt8) (k : Nat) (hk : k < 256) : decide ((c.toNat : Int) = (k : Int)) = decide (c = UInt8.ofNat k) := by
  rw [Bool.eq_iff_iff, decide_eq_true_iff, decide_eq_true_iff]; exact byte_ne' hk
theorem wrd_cons (c : UInt8) (l : List UInt8) : wrd (c :: l) = bif dlm c then [] else c :: wrd l := by
  unfold wrd; rw [List.takeWhile]; cases dlm c <;> rfl
theorem rst_cons (c : UInt8) (l : List UInt8) : rst (c :: l) = bif dlm c then c :: l else rst l := by
  unfold rst; rw [List.dropWhile]; cases dlm c <;> rfl
end Go.Abs
end
section
set_option linter.unusedVariables false
set_option linter.unusedSimpArgs false
set_option maxHeartbeats 4000000
namespace Go.Abs
open Go.Lib (itoa decDigits)
theorem nmOk_dig {c : UInt8} {r : List UInt8} (h : c.toNat = 45 ∨ (48 ≤ c.toNat ∧ c.toNat ≤ 57)) : nmOk (mkB (c :: r)) = false := by
  unfold nmOk
  have h1 : ¬ mkB (c :: r) = (⟨#[46, 46, 46]⟩ : ByteArray) := fun e => by
    have := mkB_inj (b := [46, 46, 46]) e
    cases this; revert h; decide
  have h2 : ¬ mkB (c :: r) = (⟨#[95]⟩ : ByteArray) := fun e => by
    have := mkB_inj (b := [95]) e
    cases this; revert h; decide
  have h3 : letterB (c.toNat : Int) (decide (((0 : Nat) : Int) = 0)) = false := by
    unfold letterB
    rw [decide_eq_false (show ¬ (97 : Int) ≤ c.toNat by omega), decide_eq_false (show ¬ (c.toNat : Int) = 42 by omega), decide_eq_false (show ¬ (c.toNat : Int) = 63 by omega), decide_eq_false (show ¬ (c.toNat : Int) = 61 by omega), decide_eq_false (show ¬ (c.toNat : Int) = 43 by omega), decide_eq_false (show ¬ (c.toNat : Int) = 60 by omega)]
    rfl
  rw [decide_eq_false h1, decide_eq_false h2, mkB_list, nmF, h3]; rfl
theorem nmOk_nil : nmOk (mkB []) = false := rfl
end Go.Abs
end
section
set_option linter.unusedVariables false
set_option linter.unusedSimpArgs false
set_option maxHeartbeats 4000000
namespace Go.Abs
def pf (l : List UInt8) : Form × Bool := match rd (2 * l.length + 2) 40 l with
  | some p => bif decide (skp p.2 = []) && decide (p.1.cnt ≤ 400) then (p.1, true) else (F0, false)
  | none => (F0, false)
theorem implParse_tr (l : List UInt8) (hl : l.length ≤ 2 ^ 20) : Tr (fun m => m_impl_ParseForm m (mkB l)) (pf l) := by
  refine TQ.tr (TQ.eq (fun m => by unfold m_impl_ParseForm; rfl) (TQ.bind ((imp_read (2 * l.length + 2)).1 40 l (by omega) hl (by omega)) ?_))
  rintro ⟨f, free, s, bad⟩ ⟨r, h1, h2, h3, h4⟩
  dsimp only at h1
  subst h1
  refine TQ.ev (blanks_tr r bad) ?_
  dsimp only
  unfold pf
  cases bad with
  | true =>
    refine TQ.eq (fun m => by rw [cond_true]) (TQ.val ?_)
    cases he : rd (2 * l.length + 2) 40 l with
    | none => rfl
    | some p => rw [he] at h4; cases h4.2.1
  | false =>
    obtain ⟨k1, k2⟩ := h3 rfl
    have hmk : decide (mkB (skp r) ≠ (⟨#[]⟩ : ByteArray)) = !decide (skp r = []) := by rw [← mkB_empty]; cases h : decide (mkB (skp r) = (⟨#[]⟩ : ByteArray)) <;> simp_all
    refine TQ.eq (fun m => by rw [cond_false, hmk]) ?_
    have hv := implFormValid_tr f k1
    cases he : rd (2 * l.length + 2) 40 l with
    | some p =>
      rw [he] at h4
      obtain ⟨rfl, _, rfl, _⟩ := h4
      have hok := (rd_ok _).1 _ _ _ he
      dsimp only
      by_cases hs : skp p.2 = []
      · rw [decide_eq_true hs, Bool.true_and]
        refine TQ.eq (fun m => by rw [Bool.not_true, cond_false]) (TQ.ev hv ?_)
        unfold Form.valid
        rw [hok, Bool.true_and]
        cases decide (p.1.cnt ≤ 400) with
        | true => exact TQ.eq (fun m => by rw [Bool.not_true, cond_false]; rfl) (TQ.val rfl)
        | false => exact TQ.eq (fun m => by rw [Bool.not_false, cond_true]; rfl) (TQ.val rfl)
      · rw [decide_eq_false hs, Bool.false_and]
        exact TQ.eq (fun m => by rw [Bool.not_false, cond_true]; rfl) (TQ.val rfl)
    | none =>
      rw [he] at h4
      dsimp only
      by_cases hs : skp r = []
      · rw [decide_eq_true hs]
        refine TQ.eq (fun m => by rw [Bool.not_true, cond_false]) (TQ.ev hv ?_)
        have : f.valid = false := by
          unfold Form.valid
          rcases h4 with h4 | h4 | ⟨_, h4⟩
          · cases h4
          · rw [h4]; rfl
          · exfalso
            rw [skp_id (by rcases h4 with h4 | h4 <;> rw [h4] <;> decide)] at hs
            subst hs
            rcases h4 with h4 | h4 <;> cases h4
        rw [this]
        exact TQ.eq (fun m => by rw [Bool.not_false, cond_true]) (TQ.val rfl)
      · rw [decide_eq_false hs]
        exact TQ.eq (fun m => by rw [Bool.not_false, cond_true]) (TQ.val rfl)
end Go.Abs
end
section
set_option linter.unusedVariables false
set_option linter.unusedSimpArgs false
set_option maxHeartbeats 4000000
namespace Go.Abs
open Go.Lib (itoa join joinTail decDigits)
theorem wrd_app : ∀ {w y : List UInt8}, (∀ c ∈ w, dlm c = false) → (∀ c, y.head? = some c → dlm c = true) → wrd (w ++ y) = w ∧ rst (w ++ y) = y
  | [], y, _, hy => by
    rw [List.nil_append]
    cases y with
    | nil => exact ⟨rfl, rfl⟩
    | cons c r =>
      have := hy c rfl
      rw [wrd_cons, rst_cons, this]; exact ⟨rfl, rfl⟩
  | c :: w, y, hw, hy => by
    obtain ⟨h1, h2⟩ := wrd_app (fun x hx => hw x (List.mem_cons_of_mem _ hx)) hy
    rw [List.cons_append, wrd_cons, rst_cons, hw c (List.mem_cons_self ..), h1, h2]; exact ⟨rfl, rfl⟩
theorem bef_app {c : UInt8} : ∀ {w y : List UInt8}, (∀ x ∈ w, x ≠ c) → bef c (w ++ c :: y) = w ∧ aft c (w ++ c :: y) = c :: y
  | [], y, _ => by rw [List.nil_append, bef_cons, aft_cons, if_pos rfl, if_pos rfl]; exact ⟨rfl, rfl⟩
  | x :: w, y, h => by
    obtain ⟨h1, h2⟩ := bef_app (fun z hz => h z (List.mem_cons_of_mem _ hz)) (y := y)
    have hx := h x (List.mem_cons_self ..)
    rw [List.cons_append, bef_cons, aft_cons, if_neg hx, if_neg hx, h1, h2]; exact ⟨rfl, rfl⟩
theorem cutAt_no {c : UInt8} : ∀ {w : List UInt8}, (∀ x ∈ w, x ≠ c) → cutAt c w = [w]
  | [], _ => rfl
  | x :: w, h => by rw [cutAt, if_neg (h x (List.mem_cons_self ..)), cutAt_no (fun z hz => h z (List.mem_cons_of_mem _ hz))]
theorem cutAt_app {c : UInt8} : ∀ {w y : List UInt8}, (∀ x ∈ w, x ≠ c) → cutAt c (w ++ c :: y) = w :: cutAt c y
  | [], y, _ => by rw [List.nil_append, cutAt, if_pos rfl]
  | x :: w, y, h => by
    rw [List.cons_append, cutAt, if_neg (h x (List.mem_cons_self ..)), cutAt_app (fun z hz => h z (List.mem_cons_of_mem _ hz))]
theorem cutAt_tail {c : UInt8} : ∀ (x : List UInt8) (xs : List (List UInt8)), (∀ z ∈ x, z ≠ c) → (∀ w ∈ xs, ∀ z ∈ w, z ≠ c) → cutAt c (x ++ joinTail [c] xs) = x :: xs
  | x, [], h, _ => by
    have : joinTail [c] [] = [] := rfl
    rw [this, List.append_nil, cutAt_no h]
  | x, y :: r, h, hs => by
    rw [jt_cons, List.append_assoc, List.singleton_append, cutAt_app h, cutAt_tail y r (hs y (List.mem_cons_self ..)) (fun w hw => hs w (List.mem_cons_of_mem _ hw))]
theorem join_tail (x : List UInt8) (xs : List (List UInt8)) (sep : List UInt8) : join (x :: xs) sep = x ++ joinTail sep xs := Lib.join_cons x xs sep
theorem dec_dig : ∀ (n : Nat) (c : UInt8), c ∈ decDigits n → 48 ≤ c.toNat ∧ c.toNat ≤ 57 := by
  intro n
  induction n using Nat.strongRecOn with
  | _ n ih =>
    intro c hc
    by_cases h : n < 10
    · rw [Lib.decDigits_one h, List.mem_singleton] at hc
      subst hc; rw [dig_nat h]; omega
    · rw [decDigits, dif_neg h, List.mem_append, List.mem_singleton] at hc
      rcases hc with hc | rfl
      · exact ih (n / 10) (by omega) c hc
      · rw [dig_nat (by omega)]; omega
theorem dig_dlm {c : UInt8} (h : 48 ≤ c.toNat ∧ c.toNat ≤ 57) : dlm c = false ∧ c ≠ 44 ∧ c ≠ 125 ∧ c ≠ 32 ∧ c ≠ 40 ∧ c ≠ 41 := by
  have hn : ∀ k : UInt8, (k.toNat < 48 ∨ 57 < k.toNat) → c ≠ k := fun k hk e => by subst e; omega
  have h1 := hn 32 (by decide); have h2 := hn 40 (by decide); have h3 := hn 41 (by decide); have h4 := hn 123 (by decide); have h5 := hn 125 (by decide); have h6 := hn 44 (by decide)
  refine ⟨?_, h6, h5, h1, h2, h3⟩
  unfold dlm
  simp [h1, h2, h3, h4, h5]
theorem letter_dlm {c : UInt8} {b : Bool} (h : letterB (c.toNat : Int) b = true) : dlm c = false := by
  rw [Bool.eq_false_iff]
  intro hd
  unfold dlm at hd
  simp at hd
  rcases hd with rfl | rfl | rfl | rfl | rfl <;> (revert h; cases b <;> decide)
theorem nmF_dlm : ∀ (w : List UInt8) (k : Nat), nmF k w = true → ∀ c ∈ w, dlm c = false
  | [], _, _, c, hc => by simp at hc
  | x :: w, k, h, c, hc => by
    rw [nmF, Bool.and_eq_true] at h
    rcases List.mem_cons.1 hc with rfl | hc
    · exact letter_dlm h.1
    · exact nmF_dlm w (k + 1) h.2 c hc
theorem nmOk_dlm {w : List UInt8} (h : nmOk (mkB w) = true) : ∀ c ∈ w, dlm c = false := by
  unfold nmOk at h
  simp only [Bool.or_eq_true, decide_eq_true_eq, Bool.and_eq_true] at h
  rcases h with h | h | ⟨h, _⟩
  · obtain rfl := mkB_inj (b := [46, 46, 46]) h; decide
  · obtain rfl := mkB_inj (b := [95]) h; decide
  · rw [mkB_list] at h; exact nmF_dlm w 0 h
theorem nmOk_num {w : List UInt8} (h : nmOk (mkB w) = true) : numOf w = none := by
  cases hn : numOf w with
  | none => rfl
  | some n =>
    obtain ⟨_, rfl⟩ := numOf_some.1 hn
    cases hd : decDigits n with
    | nil => exact absurd hd (decD_ne n)
    | cons c r =>
      have := dec_dig n c (by rw [hd]; exact List.mem_cons_self ..)
      rw [hd, nmOk_dig (.inr this)] at h; cases h
theorem numsOf_itoa : ∀ (l : List Int), (∀ x ∈ l, 1 ≤ x ∧ x ≤ 99) → numsOf (l.map itoa) = some l
  | [], _ => rfl
  | x :: l, h => by
    have hx := h x (List.mem_cons_self ..)
    obtain ⟨k, rfl⟩ := Int.eq_ofNat_of_zero_le (show (0 : Int) ≤ x by omega)
    rw [List.map_cons, numsOf, itoa_nat, numOf_some.2 ⟨by omega, rfl⟩, numsOf_itoa l (fun y hy => h y (List.mem_cons_of_mem _ hy))]
theorem itoa_dig {x : Int} (h : 0 ≤ x) : ∀ c ∈ itoa x, 48 ≤ c.toNat ∧ c.toNat ≤ 57 := by
  obtain ⟨k, rfl⟩ := Int.eq_ofNat_of_zero_le h
  rw [itoa_nat]; exact dec_dig k
theorem okH_dlm {y : List UInt8} (h : okH y) : ∀ c, y.head? = some c → dlm c = true := by
  intro c hc
  rcases h with rfl | h | h | h
  · cases hc
  all_goals (rw [h] at hc; cases hc; rfl)
theorem okH_no {y : List UInt8} (h : okH y) : y.head? ≠ some 123 ∧ y.head? ≠ some 125 := by
  rcases h with rfl | h | h | h
  · exact ⟨by simp, by simp⟩
  all_goals (rw [h]; exact ⟨by decide, by decide⟩)
theorem rdAtom_num {n : Int} (h0 : 0 ≤ n) (h : n ≤ 999) {y : List UInt8} (hy : okH y) : rdAtom (itoa n ++ y) = some (fNum n, y) := by
  obtain ⟨k, rfl⟩ := Int.eq_ofNat_of_zero_le h0
  rw [itoa_nat]
  obtain ⟨h1, h2⟩ := wrd_app (fun c hc => (dig_dlm (dec_dig k c hc)).1) (okH_dlm hy)
  have h3 := okH_no hy
  unfold rdAtom
  rw [h1, h2, numOf_some.2 ⟨by omega, rfl⟩, decide_eq_false h3.2, cond_false]
  dsimp only
  rw [decide_eq_false h3.1, cond_false]
theorem rdAtom_name {w : List UInt8} (hw : nmOk (mkB w) = true) {sc : List Int} (hs : scOk sc = true) {y : List UInt8} (hy : okH y) : rdAtom (w ++ (scTx sc ++ y)) = some (fName w sc, y) := by
  have h3 := okH_no hy
  have hn := nmOk_num hw
  cases sc with
  | nil =>
    have e : scTx [] = [] := rfl
    rw [e, List.nil_append]
    obtain ⟨h1, h2⟩ := wrd_app (nmOk_dlm hw) (okH_dlm hy)
    unfold rdAtom
    rw [h1, h2, hn, hw, decide_eq_false h3.2, decide_eq_false h3.1]; rfl
  | cons x l =>
    have e : scTx (x :: l) ++ y = 123 :: (join ((x :: l).map itoa) [44] ++ 125 :: y) := by
      unfold scTx
      rw [decide_eq_false (by simp), cond_false, List.append_assoc, List.append_assoc]; rfl
    have hall := (scOk_all hs).1
    have hj : ∀ z ∈ (x :: l).map itoa, ∀ c ∈ z, 48 ≤ c.toNat ∧ c.toNat ≤ 57 := by
      intro z hz c hc
      obtain ⟨v, hv, rfl⟩ := List.mem_map.1 hz
      exact itoa_dig (by have := hall v hv; omega) c hc
    have hcut : cutAt 44 (join ((x :: l).map itoa) [44]) = (x :: l).map itoa := by
      rw [List.map_cons, join_tail]
      exact cutAt_tail _ _ (fun z hz => (dig_dlm (hj _ (List.mem_cons_self ..) z hz)).2.1) (fun w hw z hz => (dig_dlm (hj w (List.mem_cons_of_mem _ hw) z hz)).2.1)
    have hno : ∀ z ∈ join ((x :: l).map itoa) [44], z ≠ 125 := by
      have key : ∀ xs : List (List UInt8), (∀ w ∈ xs, ∀ c ∈ w, 48 ≤ c.toNat ∧ c.toNat ≤ 57) → ∀ z ∈ joinTail [44] xs, z ≠ 125 := by
        intro xs
        induction xs with
        | nil => intro _ z hz; simp [joinTail] at hz
        | cons v r ih =>
          intro h z hz
          rw [jt_cons, List.mem_append, List.mem_append] at hz
          rcases hz with (hz | hz) | hz
          · rw [List.mem_singleton] at hz; subst hz; decide
          · exact (dig_dlm (h v (List.mem_cons_self ..) z hz)).2.2.1
          · exact ih (fun w hw => h w (List.mem_cons_of_mem _ hw)) z hz
      rw [List.map_cons, join_tail]
      intro z hz
      rcases List.mem_append.1 hz with hz | hz
      · exact (dig_dlm (hj _ (List.mem_cons_self ..) z hz)).2.2.1
      · exact key _ (fun w hw => hj w (List.mem_cons_of_mem _ hw)) z hz
    rw [e]
    obtain ⟨h1, h2⟩ := wrd_app (y := 123 :: (join ((x :: l).map itoa) [44] ++ 125 :: y)) (nmOk_dlm hw) (fun c hc => by cases hc; rfl)
    obtain ⟨h4, h5⟩ := bef_app (y := y) hno
    unfold rdAtom
    rw [h1, h2, hn, hw]
    have hsets : rdSets (123 :: (join ((x :: l).map itoa) [44] ++ 125 :: y) : List UInt8).tail = some (x :: l, y) := by
      unfold rdSets
      rw [List.tail_cons, h5, h4]
      dsimp only
      rw [hcut, numsOf_itoa _ hall]
      dsimp only
      rw [hs]; rfl
    rw [hsets]
    rfl
def gB (b : Nat) (c : UInt8) : List UInt8 := c :: bif decide (c = 32) || (decide (c = 40) || decide (c = 41)) then List.replicate b 32 else []
def txb (b : Nat) (f : Form) : List UInt8 := f.tx.flatMap (gB b)
theorem gB_same {b : Nat} : ∀ {w : List UInt8}, (∀ c ∈ w, c ≠ 32 ∧ c ≠ 40 ∧ c ≠ 41) → w.flatMap (gB b) = w
  | [], _ => rfl
  | c :: w, h => by
    obtain ⟨h1, h2, h3⟩ := h c (List.mem_cons_self ..)
    rw [List.flatMap_cons, gB_same (fun x hx => h x (List.mem_cons_of_mem _ hx)), gB, decide_eq_false h1, decide_eq_false h2, decide_eq_false h3]; rfl
theorem skp_rep (b : Nat) (s : List UInt8) : skp (List.replicate b 32 ++ s) = skp s := by
  induction b with
  | zero => rfl
  | succ b ih => rw [List.replicate_succ, List.cons_append, skp_cons, if_pos rfl, ih]
theorem rl_skp (f d : Nat) (s : List UInt8) (acc : List Form) : rl f d (skp s) acc = rl f d s acc := by
  cases f with
  | zero => rw [rl, rl]
  | succ f => rw [rl, rl, skp_idem]
theorem rl_rep (f d b : Nat) (s : List UInt8) (acc : List Form) : rl f d (List.replicate b 32 ++ s) acc = rl f d s acc := by
  rw [← rl_skp, skp_rep, rl_skp]
def ktb (b : Nat) : List Form → List UInt8
  | [] => []
  | k :: r => 32 :: (List.replicate b 32 ++ (txb b k ++ ktb b r))
theorem gB_join (b : Nat) (ks : List Form) : (joinTail [32] (ks.map Form.tx)).flatMap (gB b) = ktb b ks := by
  induction ks with
  | nil => rfl
  | cons k r ih =>
    rw [List.map_cons, jt_cons, List.flatMap_append, List.flatMap_append, ih, ktb]
    have : ([32] : List UInt8).flatMap (gB b) = 32 :: List.replicate b 32 := by simp [gB]
    rw [this, List.cons_append, List.cons_append, List.append_assoc]; rfl
def trl (b : Nat) (f : Form) : List UInt8 := bif decide (f.kind = 3) then List.replicate b 32 else []
theorem okH_kt (b : Nat) (ks : List Form) (z : List UInt8) : okH (ktb b ks ++ 41 :: z) := by
  cases ks with
  | nil => exact .inr (.inr (.inr rfl))
  | cons k r => exact .inr (.inl rfl)
theorem isOk_cases {f : Form} {d : Nat} (h : f.isOk d = true) : d ≠ 0 ∧ ((∃ w sc, f = fName w sc ∧ nmOk (mkB w) = true ∧ scOk sc = true) ∨ (∃ n, f = fNum n ∧ 0 ≤ n ∧ n ≤ 999) ∨ (∃ ks, f = fList ks ∧ alls (fun x => x.isOk (d - 1)) ks = true)) := by
  obtain ⟨kd, nm, n, sc, ks⟩ := f
  rw [Form.isOk, Form.isOks_eq] at h
  by_cases hd : d = 0
  · rw [decide_eq_true hd] at h; cases h
  refine ⟨hd, ?_⟩
  rw [decide_eq_false hd, cond_false] at h
  by_cases h1 : kd = 1
  · rw [decide_eq_true h1, cond_true] at h
    simp only [Bool.and_eq_true, decide_eq_true_eq] at h
    obtain ⟨g1, g2, g3, g4⟩ := h
    have : ks = [] := List.eq_nil_of_length_eq_zero (by omega)
    subst h1; subst g2; subst this
    exact .inl ⟨nm.data.toList, sc, by rw [fName, mkB_of], by rw [mkB_of]; exact g1, g3⟩
  · rw [decide_eq_false h1, cond_false] at h
    by_cases h2 : kd = 2
    · rw [decide_eq_true h2, cond_true] at h
      simp only [Bool.and_eq_true, decide_eq_true_eq] at h
      obtain ⟨g1, ⟨g2, g3⟩, g4, g5⟩ := h
      have e1 : sc = [] := List.eq_nil_of_length_eq_zero (by omega)
      have e2 : ks = [] := List.eq_nil_of_length_eq_zero (by omega)
      subst h2; subst e1; subst e2; subst g1
      exact .inr (.inl ⟨n, rfl, g2, g3⟩)
    · rw [decide_eq_false h2, cond_false] at h
      simp only [Bool.and_eq_true, decide_eq_true_eq] at h
      obtain ⟨g1, g2, g3, g4, g5⟩ := h
      have e1 : sc = [] := List.eq_nil_of_length_eq_zero (by omega)
      subst g1; subst g2; subst g3; subst e1
      exact .inr (.inr ⟨ks, rfl, g5⟩)
theorem tx_name (w : List UInt8) (sc : List Int) : (fName w sc).tx = w ++ scTx sc := by
  rw [Form.tx_eq]
  show (mkB w).data.toList ++ scTx sc = _
  rw [mkB_list]
theorem tx_num (n : Int) : (fNum n).tx = itoa n := by rw [Form.tx_eq]; rfl
theorem tx_list (ks : List Form) : (fList ks).tx = [40] ++ join (ks.map Form.tx) [32] ++ [41] := by rw [Form.tx_eq]; rfl
theorem dlm_ne {c : UInt8} (h : dlm c = false) : c ≠ 32 ∧ c ≠ 40 ∧ c ≠ 41 := by
  unfold dlm at h
  simp at h
  exact ⟨h.1, h.2.1, h.2.2.1⟩
theorem scTx_no {sc : List Int} (hs : scOk sc = true) : ∀ c ∈ scTx sc, c ≠ 32 ∧ c ≠ 40 ∧ c ≠ 41 := by
  intro c hc
  unfold scTx at hc
  cases h0 : decide (sc.length = 0) with
  | true => rw [h0] at hc; simp at hc
  | false =>
    rw [h0, cond_false, List.mem_append, List.mem_append, List.mem_singleton, List.mem_singleton] at hc
    rcases hc with (rfl | hc) | rfl
    · decide
    · cases sc with
      | nil => simp at h0
      | cons x l =>
        have hall := (scOk_all hs).1
        have key : ∀ xs : List (List UInt8), (∀ w ∈ xs, ∀ c ∈ w, 48 ≤ c.toNat ∧ c.toNat ≤ 57) → ∀ z ∈ joinTail [44] xs, z ≠ 32 ∧ z ≠ 40 ∧ z ≠ 41 := by
          intro xs
          induction xs with
          | nil => intro _ z hz; simp [joinTail] at hz
          | cons v r ih =>
            intro h z hz
            rw [jt_cons, List.mem_append, List.mem_append] at hz
            rcases hz with (hz | hz) | hz
            · rw [List.mem_singleton] at hz; subst hz; decide
            · exact (dig_dlm (h v (List.mem_cons_self ..) z hz)).2.2.2
            · exact ih (fun w hw => h w (List.mem_cons_of_mem _ hw)) z hz
        rw [List.map_cons, join_tail, List.mem_append] at hc
        rcases hc with hc | hc
        · exact (dig_dlm (itoa_dig (by have := hall x (List.mem_cons_self ..); omega) c hc)).2.2.2
        · refine key _ ?_ c hc
          intro w hw z hz
          obtain ⟨v, hv, rfl⟩ := List.mem_map.1 hw
          exact itoa_dig (by have := hall v (List.mem_cons_of_mem _ hv); omega) z hz
    · decide
theorem txb_name (b : Nat) {w : List UInt8} (hw : nmOk (mkB w) = true) {sc : List Int} (hs : scOk sc = true) : txb b (fName w sc) = w ++ scTx sc := by
  unfold txb
  rw [tx_name]
  refine gB_same (fun c hc => ?_)
  rcases List.mem_append.1 hc with hc | hc
  · exact dlm_ne (nmOk_dlm hw c hc)
  · exact scTx_no hs c hc
theorem txb_num (b : Nat) {n : Int} (h : 0 ≤ n) : txb b (fNum n) = itoa n := by
  unfold txb
  rw [tx_num]
  exact gB_same (fun c hc => (dig_dlm (itoa_dig h c hc)).2.2.2)
theorem txb_list (b : Nat) (ks : List Form) : txb b (fList ks) = 40 :: (List.replicate b 32 ++ ((match ks with | [] => [] | k :: r => txb b k ++ ktb b r) ++ 41 :: List.replicate b 32)) := by
  unfold txb
  rw [tx_list, List.flatMap_append, List.flatMap_append]
  have e1 : ([40] : List UInt8).flatMap (gB b) = 40 :: List.replicate b 32 := by simp [gB]
  have e2 : ([41] : List UInt8).flatMap (gB b) = 41 :: List.replicate b 32 := by simp [gB]
  rw [e1, e2]
  cases ks with
  | nil =>
    show (40 :: List.replicate b 32 ++ ((join [] [32]).flatMap (gB b))) ++ (41 :: List.replicate b 32) = _
    rw [Lib.join_nil]; simp
  | cons k r =>
    rw [List.map_cons, join_tail, List.flatMap_append, gB_join]
    simp [txb]
theorem tx_head {f : Form} {d : Nat} (h : f.isOk d = true) (b : Nat) : ∃ c r, txb b f = c :: r ∧ c ≠ 32 ∧ c ≠ 41 := by
  obtain ⟨_, ⟨w, sc, rfl, h1, h2⟩ | ⟨n, rfl, h1, h2⟩ | ⟨ks, rfl, h1⟩⟩ := isOk_cases h
  · rw [txb_name b h1 h2]
    cases w with
    | nil => rw [nmOk_nil] at h1; cases h1
    | cons c r =>
      have := dlm_ne (nmOk_dlm h1 c (List.mem_cons_self ..))
      exact ⟨c, _, rfl, this.1, this.2.2⟩
  · rw [txb_num b h1]
    obtain ⟨k, rfl⟩ := Int.eq_ofNat_of_zero_le h1
    rw [itoa_nat]
    cases hd : decDigits k with
    | nil => exact absurd hd (decD_ne k)
    | cons c r =>
      have := (dig_dlm (dec_dig k c (by rw [hd]; exact List.mem_cons_self ..))).2.2.2
      exact ⟨c, r, rfl, this.1, this.2.2⟩
  · rw [txb_list]; exact ⟨40, _, rfl, by decide, by decide⟩
theorem rl_trl (F d b : Nat) (f : Form) (y : List UInt8) (acc : List Form) : rl F d (trl b f ++ y) acc = rl F d y acc := by
  unfold trl
  cases decide (f.kind = 3) with
  | true => exact rl_rep F d b y acc
  | false => rfl
def Back (b : Nat) (k : Form) (d : Nat) : Prop := ∀ (y : List UInt8), okH y → ∀ F, 2 * (txb b k).length ≤ F → rd F d (txb b k ++ y) = some (k, trl b k ++ y)
theorem rl_one {b d : Nat} {k : Form} (hk : k.isOk (d - 1) = true) (hb : Back b k (d - 1)) {y : List UInt8} (hy : okH y) (F : Nat) (hF : 2 * (txb b k).length ≤ F) (acc : List Form) : rl (F + 1) d (txb b k ++ y) acc = rl F d y (acc ++ [k]) := by
  obtain ⟨c, r, h1, h2, h3⟩ := tx_head hk b
  have hr := hb y hy F hF
  rw [h1, List.cons_append] at hr ⊢
  rw [rl, skp_cons, if_neg h2]
  dsimp only
  rw [decide_eq_false h3, cond_false, hr]
  dsimp only
  exact rl_trl F d b k y _
theorem rl_kids {b d : Nat} : ∀ (ks : List Form), (∀ k ∈ ks, k.isOk (d - 1) = true ∧ Back b k (d - 1)) → ∀ (z : List UInt8) (F : Nat) (acc : List Form), 2 * (ktb b ks).length + 1 ≤ F → rl F d (ktb b ks ++ 41 :: z) acc = some (acc ++ ks, z)
  | [], _, z, F, acc, hF => by
    obtain ⟨G, rfl⟩ : ∃ G, F = G + 1 := ⟨F - 1, by simp [ktb] at hF; omega⟩
    rw [ktb, List.nil_append, rl, skp_cons, if_neg (by decide)]
    dsimp only
    rw [decide_eq_true rfl, cond_true, List.append_nil]
  | k :: r, h, z, F, acc, hF => by
    obtain ⟨h1, h2⟩ := h k (List.mem_cons_self ..)
    rw [ktb] at hF ⊢
    rw [List.length_cons, List.length_append, List.length_append] at hF
    obtain ⟨G, rfl⟩ : ∃ G, F = G + 1 := ⟨F - 1, by omega⟩
    rw [List.cons_append, List.append_assoc, List.append_assoc, ← rl_skp, skp_cons, if_pos rfl, rl_skp, rl_rep, rl_one h1 h2 (okH_kt b r z) G (by omega), rl_kids r (fun x hx => h x (List.mem_cons_of_mem _ hx)) z G _ (by omega), List.append_assoc]
    rfl
theorem rd_back (b : Nat) : ∀ (n : Nat) (f : Form) (d : Nat), f.w ≤ n → f.isOk d = true → Back b f d := by
  intro n
  induction n with
  | zero => intro f d h; have := w_pos' f; omega
  | succ n ih =>
    intro f d hn h y hy F hF
    obtain ⟨c, r, h1, h2, h3⟩ := tx_head h b
    obtain ⟨hd, hc⟩ := isOk_cases h
    obtain ⟨G, rfl⟩ : ∃ G, F = G + 1 := ⟨F - 1, by rw [h1, List.length_cons] at hF; omega⟩
    have hs : skp (txb b f ++ y) = txb b f ++ y := skp_id (by rw [h1]; simpa using h2)
    rw [rd, hs]
    have hcons : txb b f ++ y = c :: (r ++ y) := by rw [h1]; rfl
    rcases hc with ⟨w, sc, rfl, g1, g2⟩ | ⟨k, rfl, g1, g2⟩ | ⟨ks, rfl, g1⟩
    · have ht := txb_name b g1 g2
      have hat := rdAtom_name g1 g2 hy
      rw [← List.append_assoc, ← ht, hcons] at hat
      rw [hcons]
      dsimp only
      have h40 : c ≠ 40 := by
        cases w with
        | nil => rw [nmOk_nil] at g1; cases g1
        | cons x w =>
          rw [ht, List.cons_append] at h1
          have := (dlm_ne (nmOk_dlm g1 x (List.mem_cons_self ..))).2.1
          rw [(List.cons.inj h1).1] at this; exact this
      rw [decide_eq_false hd, cond_false, decide_eq_false h40, cond_false, hat]
      rfl
    · have ht := txb_num b g1
      have hat := rdAtom_num g1 g2 hy
      rw [← ht, hcons] at hat
      rw [hcons]
      dsimp only
      have h40 : c ≠ 40 := by
        rw [ht] at h1
        exact (dig_dlm (itoa_dig g1 c (by rw [h1]; exact List.mem_cons_self ..))).2.2.2.2.1
      rw [decide_eq_false hd, cond_false, decide_eq_false h40, cond_false, hat]
      rfl
    · have ht := txb_list b ks
      have hkid : ∀ k ∈ ks, k.isOk (d - 1) = true ∧ Back b k (d - 1) := fun k hk => by
        have := alls_iff.1 g1 k hk
        exact ⟨this, ih k (d - 1) (by have := Form.ws_mem hk; rw [Form.w] at hn; omega) this⟩
      rw [ht, List.length_cons, List.length_append, List.length_append, List.length_cons] at hF
      rw [ht, List.cons_append]
      dsimp only
      rw [decide_eq_false hd, cond_false, decide_eq_true rfl, cond_true]
      have key : rl G d ((List.replicate b 32 ++ ((match ks with | [] => [] | k :: r => txb b k ++ ktb b r) ++ 41 :: List.replicate b 32)) ++ y) [] = some (ks, List.replicate b 32 ++ y) := by
        rw [List.append_assoc, rl_rep, List.append_assoc, List.cons_append]
        cases ks with
        | nil =>
          have := rl_kids (b := b) (d := d) [] (by simp) (List.replicate b 32 ++ y) G [] (by simp [ktb]; omega)
          rw [ktb] at this; exact this
        | cons k r =>
          dsimp only at hF ⊢
          rw [List.length_append] at hF
          obtain ⟨H, rfl⟩ : ∃ H, G = H + 1 := ⟨G - 1, by omega⟩
          rw [List.append_assoc, rl_one (hkid k (List.mem_cons_self ..)).1 (hkid k (List.mem_cons_self ..)).2 (okH_kt b r _) H (by omega), rl_kids r (fun x hx => hkid x (List.mem_cons_of_mem _ hx)) _ H _ (by omega)]
          rfl
      rw [key]
      rfl
theorem pf_back {f : Form} (hv : f.valid = true) (b a : Nat) : pf (List.replicate a 32 ++ txb b f) = (f, true) := by
  unfold Form.valid at hv
  rw [Bool.and_eq_true] at hv
  have h := rd_back b f.w f 40 (Nat.le_refl _) hv.1 [] (.inl rfl) (2 * (List.replicate a 32 ++ txb b f).length + 2) (by rw [List.length_append]; omega)
  rw [List.append_nil] at h
  have h2 : rd (2 * (List.replicate a 32 ++ txb b f).length + 2) 40 (List.replicate a 32 ++ txb b f) = rd (2 * (List.replicate a 32 ++ txb b f).length + 2) 40 (txb b f) := by
    rw [rd, rd, skp_rep]
  unfold pf
  rw [h2, h]
  dsimp only
  have h3 : skp (trl b f ++ []) = [] := by
    unfold trl
    cases decide (f.kind = 3) with
    | true => rw [cond_true, skp_rep]; rfl
    | false => rfl
  rw [h3, decide_eq_true rfl, Bool.true_and, hv.2]; rfl
end Go.Abs
end
section
set_option linter.unusedVariables false
set_option linter.unusedSimpArgs false
set_option maxHeartbeats 4000000
namespace Go.Abs
theorem isOk_w2 : ∀ (n : Nat) (f : Form), f.w ≤ n → ∀ d, f.isOk d = true → f.w + 1 ≤ 26 * f.cnt := by
  intro n
  induction n with
  | zero => intro f h; have := f.w_kids; omega
  | succ n ih =>
    intro f hn d hd
    have hw := f.w_kids
    have hc := Form.cnt_eq f
    obtain ⟨k1, k2⟩ := isOk_kids hd
    have hsc : f.scopes.length ≤ 24 := by
      rw [Form.isOk_eq] at hd
      cases hd0 : decide (d = 0) with
      | true => rw [hd0] at hd; cases hd
      | false =>
      rw [hd0, cond_false] at hd
      by_cases h1 : f.kind = 1
      · rw [decide_eq_true h1, cond_true] at hd
        unfold scOk at hd
        simp only [Bool.and_eq_true, decide_eq_true_eq] at hd
        omega
      · rw [decide_eq_false h1, cond_false] at hd
        by_cases h2 : f.kind = 2
        · rw [decide_eq_true h2, cond_true] at hd
          simp only [Bool.and_eq_true, decide_eq_true_eq] at hd
          omega
        · rw [decide_eq_false h2, cond_false] at hd
          simp only [Bool.and_eq_true, decide_eq_true_eq] at hd
          omega
    have hk : Form.ws f.kids ≤ 26 * Form.cnts f.kids := by
      have : ∀ l : List Form, (∀ x ∈ l, x ∈ f.kids) → Form.ws l ≤ 26 * Form.cnts l := by
        intro l
        induction l with
        | nil => intro _; rw [Form.ws]; omega
        | cons x l ihl =>
          intro hx
          have h1 := ihl (fun y hy => hx y (by simp [hy]))
          have hm := hx x (by simp)
          have h2 := Form.ws_mem hm
          have h3 := ih x (by omega) _ (k2 x hm)
          rw [Form.cnts, Form.ws]; omega
      exact this _ (fun x hx => hx)
    omega
theorem valid_w2 {f : Form} (h : f.valid = true) : f.w ≤ 10400 := by
  unfold Form.valid at h
  rw [Bool.and_eq_true, decide_eq_true_eq] at h
  have := isOk_w2 _ f (Nat.le_refl _) 40 h.1
  omega
theorem dressLoop2 {L : Nat → Int → List Int → Int → List Form → Option (Form × l15Rd)} {fin : List Form → Form}
    (h0 : ∀ m k b p acc, L (m + 1) k b p acc = bif decide (k < (acc.length : Int)) then (idx acc k).bind fun x => (m_spec_l1Dress m (l15Rd.mk b p) x).bind fun r => (idx acc k).bind fun _ => L m (k + 1) r.2.b r.2.p (acc.set k.toNat r.1) else some (fin acc, l15Rd.mk b p)) :
    ∀ (zs d : List Form) (o : l15Rd) (K : Int), (∀ x ∈ zs, ∀ (o : l15Rd) (K : Int), OkRd o K → K + 3 * x.w ≤ 1000000000 → TQ (fun m => m_spec_l1Dress m o x) (fun r => OkRd r.2 (K + x.w) ∧ r.1.w ≤ 4 * x.w ∧ r.1.fit ∧ ∀ dd, x.isOk dd = true → r.1.isOk dd = true)) → OkRd o K → K + 3 * Form.ws zs ≤ 1000000000 → Form.fits d →
      TQ (fun m => L m (d.length : Int) o.b o.p (d ++ zs)) (fun r => ∃ e, r.1 = fin e ∧ Form.ws e ≤ Form.ws d + 4 * Form.ws zs ∧ Form.fits e ∧ e.length = d.length + zs.length ∧ OkRd r.2 (K + Form.ws zs) ∧ ∀ dd, alls (fun x => x.isOk dd) d = true → alls (fun x => x.isOk dd) zs = true → alls (fun x => x.isOk dd) e = true)
  | [], d, o, K, _, ho, _, hd => by
    refine TQ.step (fun m => by rw [h0, List.append_nil, ltN_self, cond_false]) (TQ.val ⟨d, rfl, by simp [Form.ws], hd, by simp, ?_, fun dd h _ => h⟩)
    simpa [Form.ws] using ho.mk'
  | x :: zs, d, o, K, hx, ho, hK, hd => by
    rw [Form.ws] at hK
    have hi : (d ++ x :: zs)[d.length]? = some x := by simp
    refine TQ.step (fun m => by rw [h0, ltN (by simp), cond_true, idx_nat hi, Option.bind_some, Int.toNat_natCast]) ?_
    refine TQ.bind (hx x (by simp) _ K ho.mk' (by omega)) (fun r hr => ?_)
    refine TQ.eq (fun m => by rw [Option.bind_some, set_mid, show (d.length : Int) + 1 = ((d ++ [r.1]).length : Int) by simp]) ?_
    refine TQ.mono (dressLoop2 h0 zs (d ++ [r.1]) r.2 (K + x.w) (fun y hy => hx y (by simp [hy])) hr.1 (by omega) (Form.fits_app hd (by rw [Form.fits, Form.fits]; exact ⟨hr.2.2.1, trivial⟩))) (fun q hq => ?_)
    obtain ⟨e, e1, e2, e3, e4, e5, e6⟩ := hq
    refine ⟨e, e1, ?_, e3, by rw [e4]; simp; omega, e5.mono (by rw [Form.ws]; omega), fun dd hd1 hz => ?_⟩
    rotate_left
    · rw [alls, Bool.and_eq_true] at hz
      exact e6 dd (by rw [alls_app, hd1, alls, hr.2.2.2 dd hz.1]; rfl) hz.2
    rw [Form.ws_append, Form.ws, Form.ws] at e2
    rw [Form.ws]; omega
theorem l1Dress2_tq : ∀ (n : Nat) (c : Form) (o : l15Rd) (K : Int), c.w ≤ n → OkRd o K → c.w ≤ 2 ^ 30 → c.fit → K + 3 * c.w ≤ 1000000000 → TQ (fun m => m_spec_l1Dress m o c) (fun r => OkRd r.2 (K + c.w) ∧ r.1.w ≤ 4 * c.w ∧ r.1.fit ∧ ∀ dd, c.isOk dd = true → r.1.isOk dd = true) := by
  intro n
  induction n with
  | zero => intro c o K h; have := c.w_kids; omega
  | succ n ih =>
    intro c o K h ho hb hf hK
    have hw := c.w_kids
    have hlen := Form.ws_len c.kids
    obtain ⟨f1, f2, f3, f4⟩ := hf.parts
    have step : ∀ x ∈ c.kids, ∀ (o : l15Rd) (K : Int), OkRd o K → K + 3 * x.w ≤ 1000000000 → TQ (fun m => m_spec_l1Dress m o x) (fun r => OkRd r.2 (K + x.w) ∧ r.1.w ≤ 4 * x.w ∧ r.1.fit ∧ ∀ dd, x.isOk dd = true → r.1.isOk dd = true) := fun x hx o K ho hK => by
      have := Form.ws_mem hx
      exact ih x o K (by omega) ho (by omega) (Form.fits_mem f4 hx) hK
    refine TQ.step (fun m => by rw [m_spec_l1Dress]) (TQ.ev (l1Copy_tr _ c (Nat.le_refl _) (by omega)) ?_)
    refine TQ.cond (fun hk1 => ?_) (fun hk1 => ?_)
    · refine TQ.bind (pick_tq o _ _ ho (by omega)) (fun v hv => ?_)
      obtain ⟨h1, _, h2, _⟩ := hv
      obtain ⟨h2, h3⟩ := h2 (by decide)
      refine TQ.idx h2 h3 (fun sc hsc => ?_)
      have hsl : sc.length ≤ 3 := by
        simp only [List.mem_cons, List.not_mem_nil, or_false] at hsc
        rcases hsc with h | h | h | h | h | h | h <;> rw [h] <;> decide
      refine TQ.chk (decide_eq_true (by simp only [List.length_nil]; omega)) ?_
      have key := dressLoop2 (L := fun m k b p acc => m_spec_l1Dress_l1 m c sc k b p acc) (fin := fun e => Form.mk c.kind c.name c.n (([] : List Int) ++ sc) e) (fun m k b p acc => by rw [m_spec_l1Dress_l1]) c.kids [] v.2 (K + 1) step h1 (by omega) (by rw [Form.fits]; trivial)
      refine TQ.mono key (fun r hr => ?_)
      obtain ⟨e, e1, e2, e3, e4, e5, e6⟩ := hr
      simp only [Form.ws, List.length_nil, Nat.zero_add] at e2 e4
      refine ⟨e5.mono (by omega), ?_, ?_, ?_⟩
      · rw [e1]; simp only [Form.w, List.nil_append]; omega
      · rw [e1, Form.fit]; exact ⟨f1, by rw [List.nil_append]; omega, by omega, e3⟩
      · intro dd hdd
        rw [e1, List.nil_append]
        have hk1 := of_decide_eq_true hk1
        obtain ⟨hd0, ⟨w, sc0, rfl, g1, g2⟩ | ⟨k, rfl, g1, g2⟩ | ⟨ks, rfl, g1⟩⟩ := isOk_cases hdd
        · have he : e = [] := List.eq_nil_of_length_eq_zero (by rw [e4]; rfl)
          subst he
          show (fName w sc).isOk dd = true
          rw [isOk_nm hd0, g1, Bool.true_and]
          simp only [List.mem_cons, List.not_mem_nil, or_false] at hsc
          rcases hsc with h | h | h | h | h | h | h <;> rw [h] <;> decide
        · exact absurd (show (2 : Int) = 1 from hk1) (by decide)
        · exact absurd (show (3 : Int) = 1 from hk1) (by decide)
    · have key := dressLoop2 (L := fun m k b p acc => m_spec_l1Dress_l2 m c k b p acc) (fin := fun e => Form.mk c.kind c.name c.n c.scopes e) (fun m k b p acc => by rw [m_spec_l1Dress_l2]) c.kids [] o K step ho (by omega) (by rw [Form.fits]; trivial)
      refine TQ.mono key (fun r hr => ?_)
      obtain ⟨e, e1, e2, e3, e4, e5, e6⟩ := hr
      simp only [Form.ws, List.length_nil, Nat.zero_add] at e2 e4
      refine ⟨e5.mono (by omega), ?_, ?_, ?_⟩
      · rw [e1]; simp only [Form.w]; omega
      · rw [e1, Form.fit]; exact ⟨f1, f2, by omega, e3⟩
      · intro dd hdd
        rw [e1]
        obtain ⟨hd0, ⟨w, sc0, rfl, g1, g2⟩ | ⟨k, rfl, g1, g2⟩ | ⟨ks, rfl, g1⟩⟩ := isOk_cases hdd
        · exact absurd (show (1 : Int) = 1 from rfl) (of_decide_eq_false hk1)
        · have he : e = [] := List.eq_nil_of_length_eq_zero (by rw [e4]; rfl)
          subst he
          exact hdd
        · show (fList e).isOk dd = true
          rw [isOk_list hd0]
          exact e6 (dd - 1) rfl g1
theorem nameFormK_tr (s : ByteArray) : Tr (fun m => m_spec_l1Name m s) (Form.mk 1 s 0 ([] : List Int) ([] : List Form)) := Tr.of (fun m => by unfold m_spec_l1Name; rfl)
def bK : Nat → Nat
  | 0 => 10
  | d + 1 => 4 * bK d
theorem bK_ge : ∀ d, 10 ≤ bK d
  | 0 => Nat.le_refl _
  | d + 1 => by have := bK_ge d; rw [bK]; omega
structure DrK (d n : Nat) (f : Form) : Prop where
  w : f.w ≤ n
  fit : f.fit
  ok : ∀ dd, d + 1 ≤ dd → f.isOk dd = true
theorem DrK.mono {d d' n n' : Nat} {f : Form} (h : DrK d n f) (hd : d ≤ d') (hn : n ≤ n') : DrK d' n' f := ⟨by have := h.w; omega, h.fit, fun dd hdd => h.ok dd (by omega)⟩
theorem leafK_num (n : Int) (h : 0 ≤ n ∧ n ≤ 999) : DrK 0 1 (Form.mk 2 (⟨#[]⟩ : ByteArray) n ([] : List Int) ([] : List Form)) := ⟨by simp [Form.w, Form.ws], by simp only [Form.fit, Form.fits, List.length_nil]; exact ⟨by decide, by decide, by decide, trivial⟩, fun dd hdd => by
  show (fNum n).isOk dd = true
  rw [isOk_num (by omega), decide_eq_true h.1, decide_eq_true h.2]; rfl⟩
theorem leafK_name (s : ByteArray) (h : s.size ≤ 100) (hn : nmOk s = true) : DrK 0 1 (Form.mk 1 s 0 ([] : List Int) ([] : List Form)) := ⟨by simp [Form.w, Form.ws], by simp only [Form.fit, Form.fits, List.length_nil]; exact ⟨by omega, by decide, by decide, trivial⟩, fun dd hdd => by
  have := isOk_nm (w := s.data.toList) (ns := []) (d := dd) (by omega)
  rw [fName, mkB_of, hn] at this
  rw [this]; rfl⟩
theorem l1SomeK_leaf (o : l15Rd) (K : Int) (ho : OkRd o K) (hK : K ≤ 1000000000) {R : Form × l15Rd → Prop} (hR : ∀ f o', DrK 0 1 f → OkRd o' (K + 2) → R (f, o')) :
    TQ (fun m => (m_spec_l15Rd_pick m o 4).bind fun v2 => bif decide (v2.1 = 0) then (m_spec_l15Rd_num m v2.2 [0, 1, 2, 7, 42, 999]).bind fun v4 => some ((Form.mk 2 (⟨#[]⟩ : ByteArray) v4.1 ([] : List Int) ([] : List Form)), v4.2)
      else (m_spec_l15Rd_of m v2.2 [(⟨#[97]⟩ : ByteArray), (⟨#[98]⟩ : ByteArray), (⟨#[120]⟩ : ByteArray), (⟨#[121]⟩ : ByteArray), (⟨#[102]⟩ : ByteArray), (⟨#[105, 102]⟩ : ByteArray), (⟨#[108, 101, 116]⟩ : ByteArray), (⟨#[43]⟩ : ByteArray)]).bind fun v5 => (m_spec_l1Name m v5.1).bind fun v6 => some (v6, v5.2)) R := by
  refine TQ.bind (pick_tq o 4 K ho (by omega)) (fun v hv => TQ.cond (fun _ => ?_) (fun _ => ?_))
  · refine TQ.bind (num_tq _ _ _ hv.1 (by omega) (by decide)) (fun w hw => TQ.val (hR _ _ (leafK_num _ (by
      have h2 := hw.2
      simp only [List.mem_cons, List.not_mem_nil, or_false] at h2
      rcases h2 with h2 | h2 | h2 | h2 | h2 | h2 <;> rw [h2] <;> decide)) (hw.1.mono (by omega))))
  · refine TQ.bind (of_tq _ _ _ hv.1 (by omega) (by decide)) (fun w hw => TQ.ev (nameFormK_tr _) (TQ.val (hR _ _ (leafK_name _ ?_ ?_) (hw.1.mono (by omega)))))
    all_goals
      have h2 := hw.2
      simp only [List.mem_cons, List.not_mem_nil, or_false] at h2
      rcases h2 with h2 | h2 | h2 | h2 | h2 | h2 | h2 | h2 <;> rw [h2] <;> first | decide | rfl
theorem l1SomeK_tq : ∀ (d : Nat), d ≤ 10 → ∀ (o : l15Rd) (K : Int), OkRd o K → K + bK d ≤ 1000000000 → TQ (fun m => m_spec_l1Some m o (d : Int)) (fun r => DrK d (bK d) r.1 ∧ OkRd r.2 (K + bK d)) := by
  intro d
  induction d with
  | zero =>
    intro _ o K ho hK
    rw [bK] at hK ⊢
    refine TQ.step (fun m => by rw [m_spec_l1Some]) (TQ.eq (fun m => by rw [decide_eq_true (show ((0 : Nat) : Int) = 0 from rfl), cond_true]) ?_)
    exact l1SomeK_leaf o K ho (by omega) (fun f o' hf ho' => ⟨hf.mono (by omega) (by omega), ho'.mono (by omega)⟩)
  | succ d ih =>
    intro hd o K ho hK
    have hb := bK_ge d
    rw [bK] at hK ⊢
    refine TQ.step (fun m => by rw [m_spec_l1Some]) (TQ.eq (fun m => by rw [decide_eq_false (show ¬ ((d + 1 : Nat) : Int) = 0 by omega), cond_false]) ?_)
    refine TQ.bind (pick_tq o 3 K ho (by omega)) (fun v hv => TQ.cond (fun _ => ?_) (fun _ => ?_))
    · exact l1SomeK_leaf v.2 _ hv.1 (by omega) (fun f o' hf ho' => ⟨hf.mono (by omega) (by omega), ho'.mono (by omega)⟩)
    refine TQ.bind (pick_tq v.2 4 _ hv.1 (by omega)) (fun w hw => ?_)
    obtain ⟨w1, _, w2, _⟩ := hw
    obtain ⟨w2, w3⟩ := w2 (by decide)
    have loop : ∀ (c : Nat), c ≤ 3 → ∀ (o' : l15Rd) (K' : Int) (acc : List Form) (T : Nat), OkRd o' K' → T = c * (bK d + 1) → K' + T ≤ 1000000000 → acc.length + c ≤ 3 → Form.fits acc → (∀ x ∈ acc, ∀ dd, d + 1 ≤ dd → x.isOk dd = true) → TQ (fun m => m_spec_l1Some_l1 m ((d + 1 : Nat) : Int) (c : Int) o'.b o'.p acc) (fun r => DrK (d + 1) (1 + Form.ws acc + T) r.1 ∧ OkRd r.2 (K' + T)) := by
      intro c
      induction c with
      | zero =>
        intro _ o' K' acc T ho' hT hK' _ hfit hok
        rw [Nat.zero_mul] at hT
        subst hT
        refine TQ.step (fun m => by rw [m_spec_l1Some_l1, decide_eq_false (show ¬ (0 : Int) < ((0 : Nat) : Int) by decide), cond_false]) (TQ.val ⟨⟨?_, ?_, ?_⟩, ho'.mk'.mono (K' := K' + ((0 : Nat) : Int)) (by omega)⟩)
        · simp [Form.w]
        · simp only [Form.fit, List.length_nil]; exact ⟨by decide, by decide, by omega, hfit⟩
        · intro dd hdd
          show (fList acc).isOk dd = true
          rw [isOk_list (by omega)]
          exact alls_iff.2 (fun x hx => hok x hx (dd - 1) (by omega))
      | succ c ihc =>
        intro hc o' K' acc T ho' hT hK' hlen hfit hok
        rw [Nat.succ_mul] at hT
        refine TQ.step (fun m => by rw [m_spec_l1Some_l1, decide_eq_true (show (0 : Int) < ((c + 1 : Nat) : Int) by omega), cond_true, show w64 (((d + 1 : Nat) : Int) - 1) = (d : Int) by rw [w64_in (by omega)]; omega, show w64 (((c + 1 : Nat) : Int) - 1) = (c : Int) by rw [w64_in (by omega)]; omega]) ?_
        refine TQ.bind (ih (by omega) _ K' ho'.mk' (by omega)) (fun z hz => ?_)
        have zw := hz.1.w
        have hws : Form.ws (acc ++ [z.1]) = Form.ws acc + (z.1.w + 1) := by rw [Form.ws_append]; simp [Form.ws]; omega
        refine TQ.chk (decide_eq_true (by simp; omega)) (TQ.mono (ihc (by omega) z.2 (K' + bK d) (acc ++ [z.1]) (c * (bK d + 1)) hz.2 rfl (by omega) (by simp; omega) ?_ ?_) (fun r hr => ⟨hr.1.mono (Nat.le_refl _) (by omega), hr.2.mono (by omega)⟩))
        rotate_left
        · intro x hx
          rcases List.mem_append.1 hx with hx | hx
          · exact hok x hx
          · rw [List.mem_singleton] at hx; subst hx; exact hz.1.ok
        have : ∀ l : List Form, Form.fits l → Form.fits (l ++ [z.1]) := by
          intro l
          induction l with
          | nil => intro _; rw [List.nil_append, Form.fits]; exact ⟨hz.1.fit, by rw [Form.fits]; trivial⟩
          | cons y l ihl => intro h; rw [Form.fits] at h; rw [List.cons_append, Form.fits]; exact ⟨h.1, ihl h.2⟩
        exact this acc hfit
    obtain ⟨c, hc⟩ := Int.eq_ofNat_of_zero_le w2
    rw [hc]
    have hc3 : c ≤ 3 := by omega
    have hT : c * (bK d + 1) ≤ 3 * (bK d + 1) := Nat.mul_le_mul_right _ hc3
    refine TQ.mono (loop c hc3 w.2 _ [] _ w1 rfl (by omega) (by simp; omega) (by rw [Form.fits]; trivial) (by simp)) (fun r hr => ⟨hr.1.mono (Nat.le_refl _) (by rw [Form.ws]; omega), hr.2.mono (by omega)⟩)
end Go.Abs
end
section
set_option linter.unusedVariables false
set_option linter.unusedSimpArgs false
set_option maxHeartbeats 4000000
namespace Go.Abs
def fmt (f : Form) : List UInt8 := bif f.valid then f.tx else []
theorem valid_ok {f : Form} (h : f.valid = true) : f.isOk 40 = true := by
  unfold Form.valid at h; rw [Bool.and_eq_true] at h; exact h.1
theorem implFormat_tr (f : Form) (hf : f.fit) (hb : f.w ≤ 2 ^ 30) : Tr (fun m => m_impl_FormatForm m f) (mkB (fmt f)) := by
  refine Tr.eq (fun m => by unfold m_impl_FormatForm; rfl) (Tr.bind (implFormValid_tr f hf) ?_)
  unfold fmt
  cases hv : f.valid with
  | false => exact Tr.tt rfl Tr.val
  | true => exact Tr.ff rfl (Tr.bind (implText_tr hb (valid_ok hv)) Tr.val)
theorem specFormat_tr (f : Form) (hf : f.fit) (hb : f.w ≤ 2 ^ 30) : Tr (fun m => m_spec_FormatForm m f) (mkB (fmt f)) := by
  refine Tr.eq (fun m => by unfold m_spec_FormatForm; rfl) (Tr.bind (specFormValid_tr f hf (by omega)) ?_)
  unfold fmt
  cases hv : f.valid with
  | false => exact Tr.tt rfl Tr.val
  | true => exact Tr.ff rfl (Tr.bind (specText_tr hb (valid_ok hv)) Tr.val)
theorem fmt_len (f : Form) : (fmt f).length ≤ 166400 := by
  unfold fmt
  cases hv : f.valid with
  | false => simp
  | true =>
    have h1 := tx_len f.w f 40 (Nat.le_refl _) (valid_ok hv)
    have h2 := valid_w2 hv
    rw [cond_true]; omega
theorem DrawForm_tq (code : List Int) (h : ∀ x ∈ code, 0 ≤ x ∧ x < 256) : TQ (fun m => m_spec_DrawFormatForm m code) (fun f => f.fit ∧ f.w ≤ 2 ^ 20) := by
  refine TQ.eq (fun m => by unfold m_spec_DrawFormatForm m_spec_DrawFormValid; rfl) ?_
  have key : TQ (fun m => (m_spec_l15Open m code).bind fun v1 =>
 (m_spec_l15Rd_num m v1 [3, 2, 4]).bind fun v2 =>
 (m_spec_l1Some m v2.2 v2.1).bind fun v3 =>
 (m_spec_l1Dress m v3.2 v3.1).bind fun v4 =>
 (m_spec_l1Mutate m v4.2 v4.1).bind fun v5 =>
 (m_spec_l1Mutate m v5.2 v5.1).bind fun v6 =>
 some v6.1) (fun f => f.fit ∧ f.w ≤ 2 ^ 20) := by
    refine TQ.bind (open_tq code h) (fun r hr => TQ.bind (num_tq _ _ 0 hr (by decide) (by decide)) (fun z hz => ?_))
    have hd : ∃ d : Nat, z.1 = (d : Int) ∧ d ≤ 4 := by
      have h2 := hz.2
      simp only [List.mem_cons, List.not_mem_nil, or_false] at h2
      rcases h2 with h2 | h2 | h2
      · exact ⟨3, h2, by decide⟩
      · exact ⟨2, h2, by decide⟩
      · exact ⟨4, h2, by decide⟩
    obtain ⟨d, hd1, hd2⟩ := hd
    have hbk : bK d ≤ 2560 := by
      have : d = 0 ∨ d = 1 ∨ d = 2 ∨ d = 3 ∨ d = 4 := by omega
      rcases this with rfl | rfl | rfl | rfl | rfl <;> decide
    refine TQ.bind (TQ.eq (fun m => by rw [hd1]) (l1SomeK_tq d (by omega) z.2 (0 + 1) hz.1 (by omega))) (fun f hf => ?_)
    have w1 := hf.1.w
    refine TQ.bind (l1Dress2_tq _ f.1 f.2 _ (Nat.le_refl _) hf.2 (by omega) hf.1.fit (by omega)) (fun g hg => ?_)
    have w2 := hg.2.1
    refine TQ.bind (l1Mutate_tq _ g.1 g.2 _ (Nat.le_refl _) hg.1 (by omega) hg.2.2.1 (by omega)) (fun p hp => ?_)
    have w3 := hp.2.1
    refine TQ.bind (l1Mutate_tq _ p.1 p.2 _ (Nat.le_refl _) hp.1 (by omega) hp.2.2 (by omega)) (fun q hq => TQ.val ⟨hq.2.2, by have := hq.2.1; omega⟩)
  exact TQ.bind key (fun f hf => TQ.val hf)
theorem blank_loop (f : Form) (s : List UInt8) (hs : s.length ≤ 2 ^ 18) {R : Bool → Prop} : ∀ (t : List UInt8) (k : Nat) (acc : List UInt8), s.drop k = t → k ≤ s.length → acc.length ≤ 1 + 3 * k →
    TQ (fun m => m_laws_FnFormBlanks_j2 m f (mkB (acc ++ t.flatMap (gB 2)))) R → TQ (fun m => m_laws_FnFormBlanks_l3 m f (mkB s) (mkB acc) (k : Int)) R := by
  intro t
  induction t with
  | nil =>
    intro k acc hd hk ha h
    have hk' : k = s.length := by have := List.drop_eq_nil_iff.1 hd; omega
    rw [List.flatMap_nil, List.append_nil] at h
    exact TQ.step (fun m => by rw [m_laws_FnFormBlanks_l3, mkB_size, decide_eq_false (by omega), cond_false]) h
  | cons c r ih =>
    intro k acc hd hk ha h
    obtain ⟨hc, hk2, hd2⟩ := dropC hd
    have hbs : Tr (fun _ : Nat => bsub (mkB s) (k : Int) (w64 ((k : Int) + 1))) (mkB [c]) := Tr.of fun _ => by
      rw [w64_in (by omega), succN, bsub_mk s (by omega) (by omega)]
      rw [List.drop_take, hd, show k + 1 - k = 1 by omega]; rfl
    have hcat : Tr (fun _ : Nat => bcat (mkB acc) (mkB [c])) (mkB (acc ++ [c])) := Tr.of fun _ => bcat_mk (by rw [List.length_singleton]; omega)
    have hbi : Tr (fun _ : Nat => bidx (mkB s) (k : Int)) (c.toNat : Int) := Tr.of fun _ => bidx_mk hc
    have hcat2 : Tr (fun _ : Nat => bcat (mkB (acc ++ [c])) (⟨#[32, 32]⟩ : ByteArray)) (mkB (acc ++ [c] ++ [32, 32])) := Tr.of fun _ => bcat_mk (a := acc ++ [c]) (b := [32, 32]) (by rw [List.length_append, List.length_singleton]; simp; omega)
    have e40 : decide ((c.toNat : Int) = ((40 : Nat) : Int)) = decide (c = 40) := dec_byte c 40 (by decide)
    have e32 : decide ((c.toNat : Int) = ((32 : Nat) : Int)) = decide (c = 32) := dec_byte c 32 (by decide)
    have e41 : decide ((c.toNat : Int) = ((41 : Nat) : Int)) = decide (c = 41) := dec_byte c 41 (by decide)
    rw [List.flatMap_cons] at h
    have more : (c = 32 ∨ c = 40 ∨ c = 41) → TQ (fun m => m_laws_FnFormBlanks_l3 m f (mkB s) (mkB (acc ++ [c] ++ [32, 32])) (w64 ((k : Int) + 1))) R := fun hcc => by
      refine TQ.eq (fun m => by rw [w64_in (by omega), succN]) (ih (k + 1) (acc ++ [c] ++ [32, 32]) hd2 (by omega) (by simp; omega) ?_)
      have : gB 2 c = [c] ++ [32, 32] := by
        unfold gB
        rcases hcc with rfl | rfl | rfl <;> rfl
      rw [this] at h
      rw [List.append_assoc acc, List.append_assoc]; exact h
    refine TQ.step (fun m => by rw [m_laws_FnFormBlanks_l3, mkB_size, decide_eq_true (by omega), cond_true]) (TQ.ev hbs (TQ.ev hcat (TQ.ev hbi ?_)))
    by_cases h40 : c = 40
    · refine TQ.eq (fun m => by rw [show (40 : Int) = ((40 : Nat) : Int) from rfl, e40, decide_eq_true h40, cond_true]) (TQ.ev hcat2 ?_)
      exact more (.inr (.inl h40))
    · refine TQ.eq (fun m => by rw [show (40 : Int) = ((40 : Nat) : Int) from rfl, e40, decide_eq_false h40, cond_false]) (TQ.ev hbi ?_)
      by_cases h32 : c = 32
      · refine TQ.eq (fun m => by rw [show (32 : Int) = ((32 : Nat) : Int) from rfl, e32, decide_eq_true h32, cond_true]) (TQ.ev hcat2 ?_)
        exact more (.inl h32)
      · refine TQ.eq (fun m => by rw [show (32 : Int) = ((32 : Nat) : Int) from rfl, e32, decide_eq_false h32, cond_false]) (TQ.ev hbi ?_)
        by_cases h41 : c = 41
        · refine TQ.eq (fun m => by rw [show (41 : Int) = ((41 : Nat) : Int) from rfl, e41, decide_eq_true h41, cond_true]) (TQ.ev hcat2 ?_)
          exact more (.inr (.inr h41))
        · refine TQ.eq (fun m => by rw [show (41 : Int) = ((41 : Nat) : Int) from rfl, e41, decide_eq_false h41, cond_false, w64_in (by omega), succN]) (ih (k + 1) (acc ++ [c]) hd2 (by omega) (by rw [List.length_append, List.length_singleton]; omega) ?_)
          have : gB 2 c = [c] := by
            unfold gB
            rw [decide_eq_false h32, decide_eq_false h40, decide_eq_false h41]; rfl
          rw [this] at h
          rw [List.append_assoc]; exact h
theorem gB_len (b : Nat) : ∀ l : List UInt8, (l.flatMap (gB b)).length ≤ (1 + b) * l.length
  | [] => Nat.le_refl _
  | c :: l => by
    have h := gB_len b l
    rw [List.flatMap_cons, List.length_append, List.length_cons, Nat.mul_add]
    have : (gB b c).length ≤ 1 + b := by
      unfold gB
      cases decide (c = 32) || (decide (c = 40) || decide (c = 41)) <;> simp <;> omega
    omega
theorem FnFormBlanks_law (a0 : List Int) (o0 : ∀ x ∈ a0, 0 ≤ x ∧ x < 256) : TQ (fun m => m_laws_FnFormBlanks m a0) (fun r => r = true) := by
  refine TQ.eq (fun m => by unfold m_laws_FnFormBlanks; rfl) (TQ.cond (fun _ => TQ.val rfl) (fun _ => ?_))
  refine TQ.bind (DrawForm_tq a0 o0) (fun f hf => ?_)
  obtain ⟨f1, f2⟩ := hf
  have hl := fmt_len f
  refine TQ.ev (implFormat_tr f f1 (by omega)) (TQ.ev (specFormat_tr f f1 (by omega)) ?_)
  refine TQ.eq (fun m => by rw [decide_eq_false (show ¬ mkB (fmt f) ≠ mkB (fmt f) by simp), cond_false, mkB_empty]) ?_
  by_cases he : fmt f = []
  · refine TQ.eq (fun m => by rw [decide_eq_true he]) (TQ.step (fun m => by rw [m_laws_FnFormBlanks_j1, cond_true]) (TQ.ev (specFormat_tr f f1 (by omega)) ?_))
    exact TQ.val (decide_eq_true rfl)
  · refine TQ.eq (fun m => by rw [decide_eq_false he]) (TQ.step (fun m => by rw [m_laws_FnFormBlanks_j1, cond_false]) ?_)
    have hv : f.valid = true := by
      cases hv : f.valid with
      | true => rfl
      | false => exact absurd (by unfold fmt; rw [hv]; rfl) he
    have hft : fmt f = f.tx := by unfold fmt; rw [hv]; rfl
    refine blank_loop f (fmt f) (by omega) (fmt f) 0 [32] rfl (Nat.zero_le _) (by simp) ?_
    have hb := pf_back hv 2 1
    have ht : ([32] : List UInt8) ++ (fmt f).flatMap (gB 2) = List.replicate 1 32 ++ txb 2 f := by rw [hft]; rfl
    have hgl := gB_len 2 (fmt f)
    have hp := implParse_tr ([32] ++ (fmt f).flatMap (gB 2)) (by rw [List.length_append, List.length_singleton]; omega)
    rw [ht, hb] at hp
    rw [ht]
    have hs1 : Tr (fun m => m_impl_FormSame m f f) true := by have := implFormSame_tr f f; rwa [same_self] at this
    refine TQ.step (fun m => by rw [m_laws_FnFormBlanks_j2]) (TQ.ev hp ?_)
    exact TQ.eq (fun m => by rw [cond_true]) (TQ.ev hs1 (TQ.val (v := true) (Q := fun r => r = true) rfl))
end Go.Abs
end
